/- Qbl of the proof: G3, G4, Ov, Gs, Og. -/
import Derived.Test.YtkaaakbejnlbgaaGreatDoorD10
import Derived.Test.YtkaaakbejnlbgaaGreatDoorShelf
set_option maxHeartbeats 4000000
set_option maxRecDepth 20000
namespace Go.Proofs.YtkaaakbejnlbgaaGreatDoor
open Go.RowKit Go.Proofs.Tryz
attribute [local go_sem ↓] Go.wp_at_zero Go.wp_at_succ
theorem Rek (G:Nat→Prop)(A B C:Oz)(n m k c d e:Nat)(N:Qak)(w:World)(h:Qwk w G A B C n m k N)(hG:∀ b,G b→b<w.heap.size)(hN:Qar N)(hc:n≤c∧c≤9223372036854775807)(hd:m≤d∧d≤9223372036854775807)(he:k≤e∧e≤9223372036854775807) :
 Calls prog 107 #[.agg #[.slice A n c,.slice B m d,.slice C k e]] w fun r w'=>∃ g,r=.returned (.pointer (some ⟨g,0,none⟩))∧GrO w' (fun b=>G b∨Qaa B=some b∨Qaa C=some b∨(w.heap.size≤b∧b<w'.heap.size)) g N∧Bw w w':=by
 have HH:=Zh h;have HLV:=Zh h.vs.1;have HLA:=Zh h.ar.1;have HGW:=Zh hG;have hn:n≤4096:=by rw [←h.vs.1];exact hN.lv
 have hm:m≤16384:=by rw [←h.ar.1];exact hN.la
 have HN:=Zh hN;have HCC:=Zh (And.intro hc (And.intro hd he));clear h hN hG hc hd he;obtain ⟨cs,hcs,hmk⟩:=Rct m Oo;have hmk2:=Qqs n Oo;have HCS:=Zh hcs;clear hcs;go_enter func107,ntmps107
 go_wp2_with fail
 (refine Qai ?_;intro w1 hw1);have hb1:Bw w w1:=by rw [hw1];exact Qag
 have hJ:Blk w1 w.heap.size 121 #[.slice A n c,.slice B m d,.slice C k e]:=by rw [hw1];exact Qbi
 have hz1:w1.heap.size=w.heap.size+1:=by rw [hw1];simp
 clear hw1;have HSX:=Zh (show ∀ V,Bw w1 V→V.cell? ⟨w.heap.size,0,none⟩=some (.slice A n c)∧V.cell? ⟨w.heap.size,1,none⟩=some (.slice B m d)∧V.cell? ⟨w.heap.size,2,none⟩=some (.slice C k e) from fun V hV=>(hJ.below hV hJ.lt).three);refine wp_region_held_drew (S:=fun V=>Bw w1 V) Kf (Zr _ _).drew (fun _=>?_);refine tzd 0 6 ?_;refine tzb 5 11 ?_;refine tz 7 13 ?_;refine tzb 9 15 ?_;refine tz 11 17 ?_;refine Qwc (G:=Qrb w1 n m cs) (L:=#[true,true,true,true,true,true,true,true,true,true,true,true,true,false,false,false]) (f0:=3) (some 10) (some 14) (some 18) rfl (fun C0 hC=>?_) ?_;{(skip);refine Qdc (rs:=[4,8,12]) Kf Sm ?_;refine Qiv.cons (o:=_) rfl (fun K hK=>?_) (Qiv.cons (o:=_) rfl (fun K hK=>?_) (Qiv.cons (o:=_) rfl (fun K hK=>?_) (Qiv.nil)));{go_simp;refine hK.out _ _ Qag (fun _=>?_);clear hK K;refine Qdc (rs:=[8,12]) Kf Sm ?_;refine Qiv.cons (o:=_) rfl (fun K hK=>?_) (Qiv.cons (o:=_) rfl (fun K hK=>?_) (Qiv.nil));{go_simp;refine hK.out _ _ Qag (fun _=>?_);clear hK K;refine Qdc (rs:=[12]) Kf Sm ?_;refine Qiv.cons (o:=_) rfl (fun K hK=>?_) (Qiv.nil);go_simp;refine hK.out _ _ Qag (fun _=>?_);clear hK K;(refine ⟨Kf,hC.out _ _ _ _ (Qrb.of (w.heap.size+1) (w.heap.size+1+1) (w.heap.size+1+1+1) ?_)⟩ <;> exact ⟨by simp [hz1],Oo,Oo,Oo,Oo,Oo,Oo,by repeat (first|apply Blk.drew|(refine Blk.new' _ _ _ ?_ <;> simp [hz1] <;> done)|apply Blk.alloc),by repeat (first|apply Blk.drew|(refine Blk.new' _ _ _ ?_ <;> simp [hz1] <;> done)|apply Blk.alloc),by repeat (first|apply Blk.drew|(refine Blk.new' _ _ _ ?_ <;> simp [hz1] <;> done)|apply Blk.alloc),Qag⟩)};{go_simp;refine hK.out _ _ Qag (fun _=>?_);clear hK K;refine Qdc (rs:=[8]) Kf Sm ?_;refine Qiv.cons (o:=_) rfl (fun K hK=>?_) (Qiv.nil);go_simp;refine hK.out _ _ Qag (fun _=>?_);clear hK K;(refine ⟨Kf,hC.out _ _ _ _ (Qrb.of (w.heap.size+1) (w.heap.size+1+1+1) (w.heap.size+1+1) ?_)⟩ <;> exact ⟨by simp [hz1],Oo,Oo,Oo,Oo,Oo,Oo,by repeat (first|apply Blk.drew|(refine Blk.new' _ _ _ ?_ <;> simp [hz1] <;> done)|apply Blk.alloc),by repeat (first|apply Blk.drew|(refine Blk.new' _ _ _ ?_ <;> simp [hz1] <;> done)|apply Blk.alloc),by repeat (first|apply Blk.drew|(refine Blk.new' _ _ _ ?_ <;> simp [hz1] <;> done)|apply Blk.alloc),Qag⟩)}};{go_simp;refine hK.out _ _ Qag (fun _=>?_);clear hK K;refine Qdc (rs:=[4,12]) Kf Sm ?_;refine Qiv.cons (o:=_) rfl (fun K hK=>?_) (Qiv.cons (o:=_) rfl (fun K hK=>?_) (Qiv.nil));{go_simp;refine hK.out _ _ Qag (fun _=>?_);clear hK K;refine Qdc (rs:=[12]) Kf Sm ?_;refine Qiv.cons (o:=_) rfl (fun K hK=>?_) (Qiv.nil);go_simp;refine hK.out _ _ Qag (fun _=>?_);clear hK K;(refine ⟨Kf,hC.out _ _ _ _ (Qrb.of (w.heap.size+1+1) (w.heap.size+1) (w.heap.size+1+1+1) ?_)⟩ <;> exact ⟨by simp [hz1],Oo,Oo,Oo,Oo,Oo,Oo,by repeat (first|apply Blk.drew|(refine Blk.new' _ _ _ ?_ <;> simp [hz1] <;> done)|apply Blk.alloc),by repeat (first|apply Blk.drew|(refine Blk.new' _ _ _ ?_ <;> simp [hz1] <;> done)|apply Blk.alloc),by repeat (first|apply Blk.drew|(refine Blk.new' _ _ _ ?_ <;> simp [hz1] <;> done)|apply Blk.alloc),Qag⟩)};{go_simp;refine hK.out _ _ Qag (fun _=>?_);clear hK K;refine Qdc (rs:=[4]) Kf Sm ?_;refine Qiv.cons (o:=_) rfl (fun K hK=>?_) (Qiv.nil);go_simp;refine hK.out _ _ Qag (fun _=>?_);clear hK K;(refine ⟨Kf,hC.out _ _ _ _ (Qrb.of (w.heap.size+1+1+1) (w.heap.size+1) (w.heap.size+1+1) ?_)⟩ <;> exact ⟨by simp [hz1],Oo,Oo,Oo,Oo,Oo,Oo,by repeat (first|apply Blk.drew|(refine Blk.new' _ _ _ ?_ <;> simp [hz1] <;> done)|apply Blk.alloc),by repeat (first|apply Blk.drew|(refine Blk.new' _ _ _ ?_ <;> simp [hz1] <;> done)|apply Blk.alloc),by repeat (first|apply Blk.drew|(refine Blk.new' _ _ _ ?_ <;> simp [hz1] <;> done)|apply Blk.alloc),Qag⟩)}};{go_simp;refine hK.out _ _ Qag (fun _=>?_);clear hK K;refine Qdc (rs:=[4,8]) Kf Sm ?_;refine Qiv.cons (o:=_) rfl (fun K hK=>?_) (Qiv.cons (o:=_) rfl (fun K hK=>?_) (Qiv.nil));{go_simp;refine hK.out _ _ Qag (fun _=>?_);clear hK K;refine Qdc (rs:=[8]) Kf Sm ?_;refine Qiv.cons (o:=_) rfl (fun K hK=>?_) (Qiv.nil);go_simp;refine hK.out _ _ Qag (fun _=>?_);clear hK K;(refine ⟨Kf,hC.out _ _ _ _ (Qrb.of (w.heap.size+1+1) (w.heap.size+1+1+1) (w.heap.size+1) ?_)⟩ <;> exact ⟨by simp [hz1],Oo,Oo,Oo,Oo,Oo,Oo,by repeat (first|apply Blk.drew|(refine Blk.new' _ _ _ ?_ <;> simp [hz1] <;> done)|apply Blk.alloc),by repeat (first|apply Blk.drew|(refine Blk.new' _ _ _ ?_ <;> simp [hz1] <;> done)|apply Blk.alloc),by repeat (first|apply Blk.drew|(refine Blk.new' _ _ _ ?_ <;> simp [hz1] <;> done)|apply Blk.alloc),Qag⟩)};{go_simp;refine hK.out _ _ Qag (fun _=>?_);clear hK K;refine Qdc (rs:=[4]) Kf Sm ?_;refine Qiv.cons (o:=_) rfl (fun K hK=>?_) (Qiv.nil);go_simp;refine hK.out _ _ Qag (fun _=>?_);clear hK K;(refine ⟨Kf,hC.out _ _ _ _ (Qrb.of (w.heap.size+1+1+1) (w.heap.size+1+1) (w.heap.size+1) ?_)⟩ <;> exact ⟨by simp [hz1],Oo,Oo,Oo,Oo,Oo,Oo,by repeat (first|apply Blk.drew|(refine Blk.new' _ _ _ ?_ <;> simp [hz1] <;> done)|apply Blk.alloc),by repeat (first|apply Blk.drew|(refine Blk.new' _ _ _ ?_ <;> simp [hz1] <;> done)|apply Blk.alloc),by repeat (first|apply Blk.drew|(refine Blk.new' _ _ _ ?_ <;> simp [hz1] <;> done)|apply Blk.alloc),Qag⟩)}}}
 · rintro v1 v2 v3 w2 ⟨ib,ob,pb,rfl,rfl,rfl,hg⟩;(have hb2:=hg.bl;simp only [Act.put,Yi,Yj,Yk];refine tz 13 19 ?_;refine Zk 14 (fun K hK=>?_);go_simp;refine hK.out _ _ Qag (fun _=>?_);clear hK K;refine tz 15 3 ?_;refine Zd ?_;obtain ⟨w3,hw3⟩:=Zx (w2.alloc (.cells #[.slice A n c,.slice B m d,.slice C k e,.slice (some ⟨ib,0,none⟩) n n,.slice (some ⟨ob,0,none⟩) n n,.slice (some ⟨pb,0,none⟩) m m] 153));rw [←hw3];have hz2:w2.heap.size=w.heap.size+4:=by have:=hg.sz;omega);(have hz3:w3.heap.size=w.heap.size+5:=by rw [hw3];simp;omega);(have hb23:Bw w2 w3:=by rw [hw3];exact Qag);(have hG3:Blk w3 w2.heap.size 153 #[.slice A n c,.slice B m d,.slice C k e,.slice (some ⟨ib,0,none⟩) n n,.slice (some ⟨ob,0,none⟩) n n,.slice (some ⟨pb,0,none⟩) m m]:=by rw [hw3];exact Blk.new _ _ _);have hR3:Ik2 w3 (w.heap.size+5) ib ob n (Qnv (·.2.1) (N.ar.take 0) n) (Qnv (·.1) (N.ar.take 0) n):=by{rw [List.take_zero,Qmr,Qmr];exact Ik2.start (by have:=hg.li;omega) (by have:=hg.lo;omega) hg.io (hg.bi.below hb23 hg.bi.lt) (hg.bo.below hb23 hg.bo.lt)};(have hP3:PlO w3 pb m N.ar 0:=(PlO.start hg.bp HCS.o).below hb23;have hb3:Bw w w3:=Zb hb1 (Zb hb2 hb23);have hJ3:=(hJ.below hb2 hJ.lt).below hb23 (hJ.below hb2 hJ.lt).lt;have lib:ib<w.heap.size+4:=by have:=hg.li;omega);(have lob:ob<w.heap.size+4:=by have:=hg.lo;omega);(have lpb:pb<w.heap.size+4:=by have:=hg.lp;omega);(have lbs:w.heap.size<ib∧w.heap.size<ob∧w.heap.size<pb:=by have:=hg.li;have:=hg.lo;have:=hg.lp;omega);have nip:=hg.ip;have nop:=hg.op;have nio:=hg.io;obtain ⟨j0,j1,j2⟩:=hJ3.three;clear hw3 hg hb23 hb2 hb1 hz1 hJ HSX hmk hmk2 HCS;rw [hz2] at hG3;rw [hz2];clear hz2;(go_wp2_with fail);clear j0 j1 j2 hJ3;(go_loopw [24] (fun q W=>w.heap.size+5≤W.heap.size∧Bw w W∧Blk W (w.heap.size+4) 153 #[.slice A n c,.slice B m d,.slice C k e,.slice (some ⟨ib,0,none⟩) n n,.slice (some ⟨ob,0,none⟩) n n,.slice (some ⟨pb,0,none⟩) m m]∧∃ j:Nat,j≤m∧q=.int .i64 j∧Ik2 W (w.heap.size+5) ib ob n (Qnv (·.2.1) (N.ar.take j) n) (Qnv (·.1) (N.ar.take j) n)∧PlO W pb m N.ar j) (fun q _=>m-(intOf q).toNat));case atStart=>exact ⟨Oo,hb3,hG3,0,Nat.zero_le _,rfl,hR3,hP3⟩
   case round =>
    clear hb3 hG3 hR3 hP3 hz3;obtain ⟨hsz,hbl,hG,j,hj,rfl,hI,hP⟩:=hrel;by_cases hlt:j<m
    · obtain ⟨b,o,x,y,z,rfl,hx,cx,cy,cz⟩:=(HH.o.ar.below hbl).at_ hlt;(have hok:=HN.o.arcs _ (Zm hx);have f0:=hok.f0;have f1:=hok.f1;have g0:=hok.g0;have g1:=hok.g1;simp only at f0 f1 g0 g1;rw [HLV.o] at f1 g1;obtain ⟨u,rfl⟩:∃ u:Nat,x=u:=⟨x.toNat,Oo⟩;obtain ⟨v,rfl⟩:∃ v:Nat,y=v:=⟨y.toNat,Oo⟩;have hu:u<n:=Oo);(have hvn:v<n:=Oo);have HN1:=Zh (Qjz (f:=(·.2.1)) (n:=n) (v:=v) hx rfl hvn);have HN2:=Zh (Qjz (f:=(·.1)) (n:=n) (v:=u) hx rfl hu);have HPN:=Zh (show Qje N.ar j ((u:Int),(v:Int),z)=((((idx (·.2.1) (N.ar.take j) (v:Int)).length:Nat):Int),(((idx (·.1) (N.ar.take j) (u:Int)).length:Nat):Int)) from rfl);(have HL1:=Zh (Qdw (f:=(·.2.1)) (l:=N.ar.take j) hvn);have HL2:=Zh (Qdw (f:=(·.1)) (l:=N.ar.take j) hu);have d1:=Qhi (·.2.1) N.ar j (v:Int);have d2:=Qhi (·.1) N.ar j (u:Int);have HX:=Zh hx;have i1:0≤(j:Int):=Oo);(have i2:(j:Int)<m:=Oo);(have i3:0≤(u:Int):=Oo);(have i4:(u:Int)<n:=Oo);(have i5:0≤(v:Int):=Oo);(have i6:(v:Int)<n:=Oo);(clear hx hok;generalize hl1:idx (·.2.1) (N.ar.take j) (v:Int)=la at *;generalize hl2:idx (·.1) (N.ar.take j) (u:Int)=lb at *;clear hl1 hl2;obtain ⟨W2,hW2⟩:=Zx (wr.alloc (.cells #[.int .i64 u,.int .i64 v,.int .i64 z] 197));have hr2:Bw wr W2:=by rw [hW2];exact Qag);(have hbr2:=hr2;have hI1:=hI;have hlib:=hI.1.lt;have hlob:=hI.2.1.lt;have hbr2:=hr2;have hI1:=hI;have hlib:=hI.1.lt;have hlob:=hI.2.1.lt;have hbr2:=hr2;have hI1:=hI;have hlib:=hI.1.lt;have hlob:=hI.2.1.lt;have hbr2:=hr2;have hI1:=hI;have hlib:=hI.1.lt;have hlob:=hI.2.1.lt;have hX2:Blk W2 wr.heap.size 197 #[.int .i64 u,.int .i64 v,.int .i64 z]:=by rw [hW2];exact Blk.new _ _ _);(have hI2:=hI.below hr2;have hP2:=hP.below hr2;have hG2:=hG.below hr2 hG.lt;have hbl2:=Zb hbl hr2;have hsz2:wr.heap.size+1=W2.heap.size:=by rw [hW2];simp);clear hI hP hG hr2;(go_wp2_with fail);rw [←hW2];clear hW2;obtain ⟨A1,c1,r1⟩:∃ A1 c1,W2.cell? ⟨ib,v,none⟩=some (.slice A1 la.length c1):=by{obtain ⟨A1,c1,l1,e1,e2,_⟩:=hI2.1.row hvn;rw [HL1.o] at e1;cases e1;exact ⟨A1,c1,e2⟩};obtain ⟨A2,c2,r2⟩:∃ A1 c1,W2.cell? ⟨ob,u,none⟩=some (.slice A1 lb.length c1):=by{obtain ⟨A1,c1,l1,e1,e2,_⟩:=hI2.2.1.row hu;rw [HL2.o] at e1;cases e1;exact ⟨A1,c1,e2⟩};have hx1:∀ q,Qaa A1=some q→q<wr.heap.size:=fun q hq=>by{rw [hbr2.cell (p:=⟨ib,v,none⟩) Sn] at r1;obtain ⟨xs,hX⟩:=hI1.1.rowAt r1;exact (hX.lt q hq).2};have hx2:∀ q,Qaa A2=some q→q<wr.heap.size:=fun q hq=>by{rw [hbr2.cell (p:=⟨ob,u,none⟩) Sn] at r2;obtain ⟨xs,hX⟩:=hI1.2.1.rowAt r2;exact (hX.lt q hq).2};clear hI1
      have HSX:=Zh (show ∀ V,(Blk V (w.heap.size+4) 153 #[.slice A n c,.slice (some ⟨b,o,none⟩) m d,.slice C k e,.slice (some ⟨ib,0,none⟩) n n,.slice (some ⟨ob,0,none⟩) n n,.slice (some ⟨pb,0,none⟩) m m]∧Blk V wr.heap.size 197 #[.int .i64 u,.int .i64 v,.int .i64 z]∧V.cell? ⟨ib,v,none⟩=some (.slice A1 la.length c1)∧V.cell? ⟨ob,u,none⟩=some (.slice A2 lb.length c2))→V.cell? ⟨w.heap.size+4,1,none⟩=some (.slice (some ⟨b,o,none⟩) m d)∧V.cell? ⟨w.heap.size+4,3,none⟩=some (.slice (some ⟨ib,0,none⟩) n n)∧V.cell? ⟨w.heap.size+4,4,none⟩=some (.slice (some ⟨ob,0,none⟩) n n)∧V.cell? ⟨w.heap.size+4,5,none⟩=some (.slice (some ⟨pb,0,none⟩) m m)∧V.cell? ⟨wr.heap.size,0,none⟩=some (.int .i64 u)∧V.cell? ⟨wr.heap.size,1,none⟩=some (.int .i64 v)∧V.cell? ⟨ib,v,none⟩=some (.slice A1 la.length c1)∧V.cell? ⟨ob,u,none⟩=some (.slice A2 lb.length c2)
       from fun V hV=>⟨hV.1.six.2.1,hV.1.six.2.2.2.1,hV.1.six.2.2.2.2.1,hV.1.six.2.2.2.2.2,hV.2.1.three.1,hV.2.1.three.2.1,hV.2.2.1,hV.2.2.2⟩)
      obtain ⟨⟨z0,p0⟩,pf0⟩:=hP2.cell (i:=j*2) Oo;obtain ⟨⟨z1,p1⟩,pf1⟩:=hP2.cell (i:=j*2+1) Oo;refine wp_region_held_drew (S:=fun V=>Blk V (w.heap.size+4) 153 #[.slice A n c,.slice (some ⟨b,o,none⟩) m d,.slice C k e,.slice (some ⟨ib,0,none⟩) n n,.slice (some ⟨ob,0,none⟩) n n,.slice (some ⟨pb,0,none⟩) m m]∧Blk V wr.heap.size 197 #[.int .i64 u,.int .i64 v,.int .i64 z]∧V.cell? ⟨ib,v,none⟩=some (.slice A1 la.length c1)∧V.cell? ⟨ob,u,none⟩=some (.slice A2 lb.length c2)) Kf ⟨hG2.drew,hX2.drew,r1,r2⟩ (fun _=>?_);refine tzd 0 29 ?_;refine tzd 4 33 ?_;refine tzd 8 37 ?_;refine tzd 12 41 ?_;refine tzd 16 45 ?_;refine tzd 20 49 ?_;refine tz 24 53 ?_;clear HSX;obtain ⟨W4,hW4⟩:=Zx (((W2.setCell ⟨pb,j*2,none⟩ (.int .i64 (la.length:Int))).setCell ⟨pb,j*2+1,none⟩ (.int .i64 (lb.length:Int))).drew)
      have HP4:=Zh (show PlO W4 pb m N.ar (j+1) from by
       have:=hP2.next hlt HX.o;rw [HPN.o] at this;rw [hW4];exact this)
      have HI4:=Zh (show Ik2 W4 (w.heap.size+5) ib ob n (Qnv (·.2.1) (N.ar.take j) n) (Qnv (·.1) (N.ar.take j) n) from by
       rw [hW4];exact (hI2.set (b:=pb) (i:=j*2) (Ne.symm nip) (Ne.symm nop) Oo (.int .i64 (la.length:Int))).set (b:=pb) (i:=j*2+1) (Ne.symm nip) (Ne.symm nop) Oo (.int .i64 (lb.length:Int)))
      (have hGW4:Blk W4 (w.heap.size+4) 153 #[.slice A n c,.slice (some ⟨b,o,none⟩) m d,.slice C k e,.slice (some ⟨ib,0,none⟩) n n,.slice (some ⟨ob,0,none⟩) n n,.slice (some ⟨pb,0,none⟩) m m]:=by rw [hW4];exact (hG2.far_ Oo _).far_ Oo _);(have hXW4:Blk W4 wr.heap.size 197 #[.int .i64 u,.int .i64 v,.int .i64 z]:=by rw [hW4];exact (hX2.far_ Oo _).far_ Oo _);have r1':W4.cell? ⟨ib,v,none⟩=some (.slice A1 la.length c1):=by{rw [hW4,World.cell?_drew,World.cell?_setCell_other _ _ _ _ (fun e=>nip (by injection e with e1;exact e1.symm)),World.cell?_setCell_other _ _ _ _ (fun e=>nip (by injection e with e1;exact e1.symm))];exact r1};have r2':W4.cell? ⟨ob,u,none⟩=some (.slice A2 lb.length c2):=by{rw [hW4,World.cell?_drew,World.cell?_setCell_other _ _ _ _ (fun e=>nop (by injection e with e1;exact e1.symm)),World.cell?_setCell_other _ _ _ _ (fun e=>nop (by injection e with e1;exact e1.symm))];exact r2};(have hblW4:Bw w W4:=by rw [hW4];exact Qag);(have hszW4:wr.heap.size<W4.heap.size:=hXW4.lt);refine Zk 25 (fun K hK=>?_);go_simp;refine hK.out _ _ ⟨(hG2.far_ Oo _).far_ Oo _,(hX2.far_ Oo _).far_ Oo _,by rw [hW4] at r1';exact r1',by rw [hW4] at r2';exact r2'⟩ (fun _=>?_);clear hK K;refine Zd ?_;rw [←hW4];clear hW4 p0 p1 pf0 pf1 hP2 hI2 hG2 hX2 r1 r2 hbr2;have r1:=r1';have r2:=r2';have hIW4:=HI4.o;have hPW4:=HP4.o;clear r1' r2' HI4 HP4
      have HSX:=Zh (show ∀ V,(Blk V (w.heap.size+4) 153 #[.slice A n c,.slice (some ⟨b,o,none⟩) m d,.slice C k e,.slice (some ⟨ib,0,none⟩) n n,.slice (some ⟨ob,0,none⟩) n n,.slice (some ⟨pb,0,none⟩) m m]∧Blk V wr.heap.size 197 #[.int .i64 u,.int .i64 v,.int .i64 z])→V.cell? ⟨w.heap.size+4,3,none⟩=some (.slice (some ⟨ib,0,none⟩) n n)∧V.cell? ⟨w.heap.size+4,4,none⟩=some (.slice (some ⟨ob,0,none⟩) n n)∧V.cell? ⟨wr.heap.size,0,none⟩=some (.int .i64 u)∧V.cell? ⟨wr.heap.size,1,none⟩=some (.int .i64 v)
       from fun V hV=>⟨hV.1.six.2.2.2.1,hV.1.six.2.2.2.2.1,hV.2.three.1,hV.2.three.2.1⟩)
      (go_wp2_with fail);refine wp_region_held_drew (S:=fun V=>Blk V (w.heap.size+4) 153 #[.slice A n c,.slice (some ⟨b,o,none⟩) m d,.slice C k e,.slice (some ⟨ib,0,none⟩) n n,.slice (some ⟨ob,0,none⟩) n n,.slice (some ⟨pb,0,none⟩) m m]∧Blk V wr.heap.size 197 #[.int .i64 u,.int .i64 v,.int .i64 z]) Kf ⟨hGW4.drew,hXW4.drew⟩ (fun _=>?_);refine tzd 0 54 ?_;refine tzd 4 58 ?_;refine tzd 8 62 ?_;refine tz 12 66 ?_;refine tz 14 68 ?_;refine wpAnyH_ready (rs:=[13,15]) Kf Sm ?_;refine AllReadyH.cons (o:=_) rfl (fun K hK=>?_) (AllReadyH.cons (o:=_) rfl (fun K hK=>?_) AllReadyH.nil)
      focus
       go_simp;refine hK.out _ _ ⟨hGW4.drew,hXW4.drew⟩ (fun _=>?_);clear hK K;refine Zk 15 (fun K hK=>?_);go_simp;refine hK.out _ _ ⟨(hGW4.alloc _).drew,(hXW4.alloc _).drew⟩ (fun _=>?_);clear hK K
      rotate_left
      focus
       go_simp;refine hK.out _ _ ⟨(hGW4.alloc _).drew,(hXW4.alloc _).drew⟩ (fun _=>?_);clear hK K;have r1a:=fun o=>Zc (show Bw W4 (W4.alloc o) from Qag) (Zn _) r1
       refine Zk 13 (fun K hK=>?_);go_simp;refine hK.out _ _ ⟨(hGW4.alloc _).drew,(hXW4.alloc _).drew⟩ (fun _=>?_);clear hK K r1a
      all_goals
       obtain ⟨WA,hWA⟩:=Zx ((W4.alloc (.cells #[.int .i64 (j:Int)] 3)).drew);rw [←hWA];have hbA:Bw W4 WA:=by rw [hWA];exact Qag
       have hrA:Rds WA 1 (some ⟨W4.heap.size,0,none⟩) 1 (Qae [(j:Int)]):=by rw [hWA];exact (Blk.new W4 3 (Qbr [(j:Int)])).rds rfl
       clear hWA;have hIA:=hIW4.below hbA;have hGA:=hGW4.below hbA hGW4.lt;have hXA:=hXW4.below hbA hXW4.lt;have hPA:=hPW4.below hbA;have hblA:=Zb hblW4 hbA;have hcA:=Zc hbA (Zn _) r1
       have hoA:Own WA (w.heap.size+5) 3 1 A1 la.length c1 (Qae la):=by
        obtain ⟨A9,c9,l9,e1,e2,_,e4⟩:=hIA.1.row hvn;rw [HL1.o] at e1
        cases e1
        rw [hcA] at e2
        cases e2
        exact e4
       have hszA:=hbA.size;refine Zk 16 (fun K hK=>?_);with_reducible refine Qbc (some 70) rfl rfl (.tmp 67) (.tmp 69) 64 rfl 3 _ 1 8 Qbm underlying64 rfl Oo rfl rfl hoA hrA (Qaq _) Oo Oo Oo ?_
       intro A' c' w' hown' hg hat;have hG':=hGA.grown hg (hoA.ne Oo);have hX':=hXA.grown hg (fun e=>by have:=hx1 _ e;omega);have hP':=hPA.grown hg (hoA.ne Oo);have hb':Bw w w':=Zo hblA hg (hoA.mono Oo) Oo;have HI':=Zh (hIA.push (HL1.o) hcA hown' hg hat);have hz':=hg.size;obtain ⟨xf,hfv,hff⟩:=hIA.1.cellG hvn hg (hoA.ne Oo)
       have r2n:w'.cell? ⟨ob,u,none⟩=some (.slice A2 lb.length c2):=by
        rw [World.cell?_of_block (hg.block ob Oo (fun e=>hoA.ne (g:=ob) Oo e.symm))];exact Zc hbA (Zn _) r2
       clear hGA hXA hPA hIA hoA hrA hcA hown' hg hat hbA hblA;refine hK.out _ _ ⟨hG',hX'⟩ (fun _=>?_);clear hK K;simp only [Act.put,Yi,Yj,Yk];refine tz 17 71 ?_;refine Zk 18 (fun K hK=>?_);go_simp;refine hK.out _ _ ⟨hG'.far_ Oo _,hX'.far_ Oo _⟩ (fun _=>?_);clear hK K;refine Zd ?_;obtain ⟨W5,hwW5⟩:=Zx (w'.setCell ⟨ib,v,none⟩ (.slice A' (la.length+1) c'));rw [←hwW5];have hGW5:Blk W5 (w.heap.size+4) 153 #[.slice A n c,.slice (some ⟨b,o,none⟩) m d,.slice C k e,.slice (some ⟨ib,0,none⟩) n n,.slice (some ⟨ob,0,none⟩) n n,.slice (some ⟨pb,0,none⟩) m m]:=by rw [hwW5];exact hG'.far_ Oo _
       have hXW5:Blk W5 wr.heap.size 197 #[.int .i64 u,.int .i64 v,.int .i64 z]:=by rw [hwW5];exact hX'.far_ Oo _
       have hPW5:PlO W5 pb m N.ar (j+1):=by rw [hwW5];exact hP'.grown (Qac _ _ _ _) (fun e=>by injection e;omega)
       have hIW5:=HI'.o;rw [←hwW5,HN1.o] at hIW5;have hblW5:Bw w W5:=by rw [hwW5];exact hb'.setCell Sn _
       have hszW5:w.heap.size+5≤W5.heap.size:=by rw [hwW5];simp [World.setCell];omega
       have hwxW5:wr.heap.size<W5.heap.size:=hXW5.lt
       have r2m:W5.cell? ⟨ob,u,none⟩=some (.slice A2 lb.length c2):=by
        rw [hwW5,World.cell?_setCell_other _ _ _ _ (fun e=>nio (by injection e))];exact r2n
       clear r2n r1 r2;have r2:=r2m;clear hwW5 hG' hX' hP' HI' hb' hfv hff;have hIW5s:=hIW5.swap;clear hIW5;have hIW5:=hIW5s;clear r2m
       go_wp2_with fail
       refine wp_region_held_drew (S:=fun V=>Blk V (w.heap.size+4) 153 #[.slice A n c,.slice (some ⟨b,o,none⟩) m d,.slice C k e,.slice (some ⟨ib,0,none⟩) n n,.slice (some ⟨ob,0,none⟩) n n,.slice (some ⟨pb,0,none⟩) m m]∧Blk V wr.heap.size 197 #[.int .i64 u,.int .i64 v,.int .i64 z]) Kf ⟨hGW5.drew,hXW5.drew⟩ (fun _=>?_);refine tzd 0 72 ?_;refine tzd 4 76 ?_;refine tzd 8 80 ?_;refine tz 12 84 ?_;refine tz 14 86 ?_;refine wpAnyH_ready (rs:=[13,15]) Kf Sm ?_;refine AllReadyH.cons (o:=_) rfl (fun K hK=>?_) (AllReadyH.cons (o:=_) rfl (fun K hK=>?_) AllReadyH.nil)
       focus
        go_simp;refine hK.out _ _ ⟨hGW5.drew,hXW5.drew⟩ (fun _=>?_);clear hK K;refine Zk 15 (fun K hK=>?_);go_simp;refine hK.out _ _ ⟨(hGW5.alloc _).drew,(hXW5.alloc _).drew⟩ (fun _=>?_);clear hK K
       rotate_left
       focus
        go_simp;refine hK.out _ _ ⟨(hGW5.alloc _).drew,(hXW5.alloc _).drew⟩ (fun _=>?_);clear hK K;have r2a:=fun o=>Zc (show Bw W5 (W5.alloc o) from Qag) (Zn _) r2
        refine Zk 13 (fun K hK=>?_);go_simp;refine hK.out _ _ ⟨(hGW5.alloc _).drew,(hXW5.alloc _).drew⟩ (fun _=>?_);clear hK K r2a
       all_goals
        obtain ⟨WA,hWA⟩:=Zx ((W5.alloc (.cells #[.int .i64 (j:Int)] 3)).drew);rw [←hWA];have hbA:Bw W5 WA:=by rw [hWA];exact Qag
        have hrA:Rds WA 1 (some ⟨W5.heap.size,0,none⟩) 1 (Qae [(j:Int)]):=by rw [hWA];exact (Blk.new W5 3 (Qbr [(j:Int)])).rds rfl
        clear hWA;have hIA:=hIW5.below hbA;have hGA:=hGW5.below hbA hGW5.lt;have hXA:=hXW5.below hbA hXW5.lt;have hPA:=hPW5.below hbA;have hblA:=Zb hblW5 hbA;have hcA:=Zc hbA (Zn _) r2
        have hoA:Own WA (w.heap.size+5) 3 1 A2 lb.length c2 (Qae lb):=by
         obtain ⟨A9,c9,l9,e1,e2,_,e4⟩:=hIA.1.row hu;rw [HL2.o] at e1
         cases e1
         rw [hcA] at e2
         cases e2
         exact e4
        have hszA:=hbA.size;refine Zk 16 (fun K hK=>?_);with_reducible refine Qbc (some 88) rfl rfl (.tmp 85) (.tmp 87) 64 rfl 3 _ 1 8 Qbm underlying64 rfl Oo rfl rfl hoA hrA (Qaq _) Oo Oo Oo ?_
        intro A' c' w' hown' hg hat;have hG':=hGA.grown hg (hoA.ne Oo);have hX':=hXA.grown hg (fun e=>by have:=hx2 _ e;omega);have hP':=hPA.grown hg (hoA.ne Oo);have hb':Bw w w':=Zo hblA hg (hoA.mono Oo) Oo;have HI':=Zh (hIA.push (HL2.o) hcA hown' hg hat);have hz':=hg.size;obtain ⟨xf,hfv,hff⟩:=hIA.1.cellG hu hg (hoA.ne Oo);clear hGA hXA hPA hIA hoA hrA hcA hown' hg hat hbA hblA;refine hK.out _ _ ⟨hG',hX'⟩ (fun _=>?_);clear hK K;simp only [Act.put,Yi,Yj,Yk];refine tz 17 89 ?_;refine Zk 18 (fun K hK=>?_);go_simp;refine hK.out _ _ ⟨hG'.far_ Oo _,hX'.far_ Oo _⟩ (fun _=>?_);clear hK K;refine Zd ?_;obtain ⟨W6,hwW6⟩:=Zx (w'.setCell ⟨ob,u,none⟩ (.slice A' (lb.length+1) c'));rw [←hwW6];have hGW6:Blk W6 (w.heap.size+4) 153 #[.slice A n c,.slice (some ⟨b,o,none⟩) m d,.slice C k e,.slice (some ⟨ib,0,none⟩) n n,.slice (some ⟨ob,0,none⟩) n n,.slice (some ⟨pb,0,none⟩) m m]:=by rw [hwW6];exact hG'.far_ Oo _
        have hXW6:Blk W6 wr.heap.size 197 #[.int .i64 u,.int .i64 v,.int .i64 z]:=by rw [hwW6];exact hX'.far_ Oo _
        have hPW6:PlO W6 pb m N.ar (j+1):=by rw [hwW6];exact hP'.grown (Qac _ _ _ _) (fun e=>by injection e;omega)
        have hIW6:=HI'.o;rw [←hwW6,HN2.o] at hIW6;have hblW6:Bw w W6:=by rw [hwW6];exact hb'.setCell Sn _
        have hszW6:w.heap.size+5≤W6.heap.size:=by rw [hwW6];simp [World.setCell];omega
        have hwxW6:wr.heap.size<W6.heap.size:=hXW6.lt
        clear hwW6 hG' hX' hP' HI' hb' hfv hff
        go_wp2_with fail
        go_roundw
        case rel=>exact ⟨hszW6,hblW6,hGW6,j+1,Oo,by go_num,hIW6.swap,hPW6⟩
        case measure=>simp [intOf];omega
    · (obtain rfl:m=j:=Oo);rw [Ye (by rw [HLA.o];exact Zn _)] at hI;have hNr:=HH.o.below hbl;have hzz:=hbl.size
      have HGR:=Zh (show GrO wr (fun b=>G b∨Qaa B=some b∨Qaa C=some b∨(w.heap.size≤b∧b<wr.heap.size)) (w.heap.size+4) N from by
       refine ⟨fun b=>G b∨(w.heap.size≤b∧b<wr.heap.size),A,B,C,some ⟨ib,0,none⟩,some ⟨ob,0,none⟩,some ⟨pb,0,none⟩,n,m,k,c,d,e,n,n,m,?_⟩
       have kb:∀ b,Qaa B=some b→¬(G b∨(w.heap.size≤b∧b<wr.heap.size)):=fun b hb hc=>by
        rcases hc with hc|hc
        · exact HH.o.ga b hb hc
        · have:=(HH.o.wa b hb).1;omega
       have kc:∀ b,Qaa C=some b→¬(G b∨(w.heap.size≤b∧b<wr.heap.size)):=fun b hb hc=>by
        rcases hc with hc|hc
        · exact HH.o.gt b hb hc
        · have:=(HH.o.wt b hb).1;omega
       refine ⟨hNr.mono (fun b hb=>.inl hb) kb kc,hG,.inr ⟨Oo,Oo⟩,?_,?_,?_,?_,?_,HN.o,HCC.o.1,HCC.o.2.1,HCC.o.2.2⟩
       · exact hI.1.rdM (.inr ⟨Oo,Oo⟩) (fun b h1 h2=>.inr ⟨Oo,h2⟩)
       · exact hI.2.1.rdM (.inr ⟨Oo,Oo⟩) (fun b h1 h2=>.inr ⟨Oo,h2⟩)
       · exact (hP.rdP HLA.o).msk (fun b hb=>by have:=Qir hb;exact .inr ⟨Oo,Oo⟩)
       · rintro b ((hb|hb)|hb|hb)
         · exact .inl hb
         · exact .inr (.inr (.inr hb))
         · exact .inr (.inl hb)
         · exact .inr (.inr (.inl hb))
       · rintro b (hb|hb|hb|hb)
         · have:=HGW.o b hb;omega
         · have:=(HH.o.wa b hb).1;omega
         · have:=(HH.o.wt b hb).1;omega
         · exact hb.2)
      clear hI hP hG hNr;(go_wp2_with fail);go_ret;exact ⟨_,rfl,HGR.o,hbl⟩
theorem GrO.mono {W:World}{F F':Nat→Prop}{g:Nat}{N:Qak}(h:GrO W F g N)(hs:∀ b,F b→F' b)(hl:∀ b,F' b→b<W.heap.size):GrO W F' g N:=by obtain ⟨G,A,B,C,I,O,P,n,m,k,c,d,e,ci,co,cp,h⟩:=h;exact ⟨G,A,B,C,I,O,P,n,m,k,c,d,e,ci,co,cp,h.net,h.blk,h.gg,h.ins,h.outs,h.plc,fun b hb=>hs b (h.sub b hb),hl,h.ok,h.c0,h.c1,h.c2⟩
theorem Qar.costs {N:Qak}(h:Qar N):∀ t∈N.ts,t.costs.length≤1000000:=fun t ht=>by have hT:=h.tabs t ht;have hm:=Quz hT.i0 hT.i16 hT.o0 hT.o16;have:=hT.len;omega
theorem Qxg (A B C:Oz)(n m k c d e:Nat)(N:Qak)(w:World)(h:Qcp w A B C n m k N)(hN:Qar N) :
 Calls prog 54 #[.agg #[.slice A n c,.slice B m d,.slice C k e]] w fun r w'=>∃ g,r=.returned (.tuple #[.pointer (some ⟨g,0,none⟩),.nilIface])∧GrO w' (fun b=>w.heap.size≤b∧b<w'.heap.size) g N∧Bw w w':=by
 have HH:=Zh h;have HN:=Zh hN;have hn:n≤4096:=by rw [←h.1.1];exact hN.lv
 have hm:m≤16384:=by rw [←h.2.1.1];exact hN.la
 have hk:k≤256:=by rw [←h.2.2.1];exact hN.lt
 clear h hN;go_enter func54,ntmps54
 go_wp2_with fail
 (refine Qab ?_;intro w1 hw1);have hb1:Bw w w1:=by rw [hw1];exact Qag
 have hJ:Blk w1 w.heap.size 121 #[.slice A n c,.slice B m d,.slice C k e]:=by rw [hw1];exact Qbi
 clear hw1;with_reducible refine (Qxx A B C n m k c d e N w1 (HH.o.below hb1) HN.o).mono ?_
 rintro r w2 ⟨rfl,hb2⟩;have hbw2:=Zb hb1 hb2;obtain ⟨j0,j1,j2⟩:=(hJ.below hb2 hJ.lt).three;clear hJ hb2;go_wp2_with fail
 with_reducible refine (Qpv A B C n m k c d e N w2 (HH.o.below hbw2) Oo Oo Oo HN.o.costs).mono ?_
 rintro r w3 ⟨A',B',C',c',d',e',rfl,hR,hbc,q1,q2,q3,q4,q5,q6,hb3⟩;have hbw3:=Zb hbw2 hb3;have HC:=Zh (Rek _ A' B' C' n m k c' d' e' N w3 hR (fun b hb=>hb.2.1) HN.o ⟨q1,q2⟩ ⟨q3,q4⟩ ⟨q5,q6⟩);have HBC:=Zh hbc;have HWA:=Zh hR.wa;have HWT:=Zh hR.wt;clear hR hbc q1 q2 q3 q4 q5 q6 j0 j1 j2;go_wp2_with fail
 with_reducible refine HC.o.mono ?_
 rintro r w4 ⟨g,rfl,hG,hb4⟩;have HG:=Zh hG;clear hG HC;go_wp2_with fail
 go_ret2
 have h1:=hbw2.size;have h3:=hb3.size;have h4:=hb4.size;refine ⟨g,rfl,HG.o.mono (fun b hb=>?_) (fun b hb=>hb.2),Zb hbw3 hb4⟩;rcases hb with hb|hb|hb|hb
 {exact ⟨Oo,Oo⟩};{have z1:=HBC.o b (.inl hb);have z2:=(HWA.o b hb).1;exact ⟨Oo,Oo⟩};{have z1:=HBC.o b (.inr hb);have z2:=(HWT.o b hb).1;exact ⟨Oo,Oo⟩};{exact ⟨Oo,Oo⟩}
theorem Qms (A B C:Oz)(n m k c d e:Nat)(N:Qak)(w:World)(h:Qcp w A B C n m k N)(hN:Qar N) :
 Calls prog 20 #[.agg #[.slice A n c,.slice B m d,.slice C k e]] w fun r w'=>∃ g,r=.returned (.pointer (some ⟨g,0,none⟩))∧GrO w' (fun b=>w.heap.size≤b∧b<w'.heap.size) g N∧Bw w w':=by
 have HH:=Zh h;have HN:=Zh hN;have hn:n≤4096:=by rw [←h.1.1];exact hN.lv
 have hm:m≤16384:=by rw [←h.2.1.1];exact hN.la
 have hk:k≤256:=by rw [←h.2.2.1];exact hN.lt
 clear h hN;go_enter func20,ntmps20
 go_wp2_with fail
 (refine Qab ?_;intro w1 hw1);have hb1:Bw w w1:=by rw [hw1];exact Qag
 clear hw1;with_reducible refine (Rgx A B C n m k c d e N w1 (HH.o.below hb1) Oo Oo Oo HN.o.costs).mono ?_
 rintro r w2 ⟨A',B',C',c',d',e',rfl,hR,hb2⟩;have hbw2:=Zb hb1 hb2;have HC:=Zh (Qxg A' B' C' n m k c' d' e' N w2 hR HN.o);clear hR;go_wp2_with fail
 with_reducible refine HC.o.mono ?_
 rintro r w3 ⟨g,rfl,hG,hb3⟩;have HG:=Zh hG;clear hG HC;go_wp2_with fail
 go_ret;have h1:=hbw2.size;exact ⟨g,rfl,HG.o.mono (fun b hb=>⟨Oo,hb.2⟩) (fun b hb=>hb.2),Zb hbw2 hb3⟩
theorem Own.keep {w w':World}{B s n c:Nat}{e:TypeId}{A:Oz}{xs:List Value}(h:Own w B e s A n c xs) (hk:∀ b,Qaa A=some b→w'.heap[b]?=w.heap[b]?):Own w' B e s A n c xs:=by
 refine ⟨h.1,?_⟩;rcases h.2 with h'|⟨g,cap,cur,h1,h2,h3,h4⟩
 {exact .inl h'};{refine .inr ⟨g,cap,cur,h1,h2,?_,h4⟩;cases h1;exact (hk g rfl).trans h3}
theorem RdK.keepB {k:IntKind}{w w':World}{A:Oz}{n:Nat}{l:Iz}(h:RdK k w A n l) (hk:∀ b,Qaa A=some b→w'.heap[b]?=w.heap[b]?):RdK k w' A n l :=
 ⟨h.1,fun i x hx=>by
  obtain ⟨b,o,e,hc⟩:=h.2 i x hx;exact ⟨b,o,e,Qdz (hk b (by rw [e];rfl)) hc⟩⟩
theorem RwL.keep {W W':World}{B n c:Nat}{A:Oz}{xs:List Value} {ls:Lz} (h:RwL W B A n c xs ls) (hz:W.heap.size≤W'.heap.size) (hk:∀ b,B≤b→b<W.heap.size→W'.heap[b]?=W.heap[b]?):RwL W' B A n c xs ls :=
 ⟨h.1.keep (fun b hb=>hk b (h.1.lt b hb).1 (h.1.lt b hb).2),h.2.1,fun i l hl=>by
  obtain ⟨A',n',c',p1,h2,h3,h4,h5⟩:=h.2.2 i l hl;exact ⟨A',n',c',p1,h2.keepB (fun g hg=>hk g (h3 g hg).1 (h3 g hg).2.1),fun g hg=>⟨(h3 g hg).1,Yu (h3 g hg).2.1 hz,(h3 g hg).2.2⟩,h4,h5⟩⟩
def szG (x:Qap):Nat:=x.1.length*x.2.length
def Qfe (row:List Qap):Nat:=(row.map szG).sum
def Qcy (gs:List (List Qap)):Nat:=(gs.map Qfe).sum
theorem sumS_app (r:List Qap)(x:Qap):Qfe (r ++[x])=Qfe r+szG x:=by simp [Qfe]
theorem sumA_app (r:List (List Qap)) (x:List Qap):Qcy (r ++[x])=Qcy r+Qfe x:=by simp [Qcy]
theorem Qhp {r:List Qap}{j:Nat}{x:Qap} (h:r[j]?=some x):Qfe (r.take (j+1))=Qfe (r.take j)+szG x:=by rw [Yf (Zs h).1,(Zs h).2,sumS_app]
theorem Qho {r:List (List Qap)} {j:Nat} {x:List Qap} (h:r[j]?=some x):Qcy (r.take (j+1))=Qcy (r.take j)+Qfe x:=by rw [Yf (Zs h).1,(Zs h).2,sumA_app]
def Qkj (s:Nat)(row:List Qap):Iz:=(List.range row.length).map (fun j:Nat=>((s+Qfe (row.take j):Nat):Int))
theorem Qfz (s:Nat)(row:List Qap):(Qkj s row).length=row.length:=by simp [Qkj]
theorem Qvs {s j:Nat}{row:List Qap}(h:j<row.length):(Qkj s row)[j]?=some ((s+Qfe (row.take j):Nat):Int):=by unfold Qkj;rw [Yt,List.getElem?_range h];rfl
def Rcx (gs:List (List Qap)):Lz:=(List.range gs.length).map (fun i:Nat=>Qkj (Qcy (gs.take i)) (gs.getD i []))
theorem Rhx (gs:List (List Qap)):(Rcx gs).length=gs.length:=by simp [Rcx]
theorem Qvr {gs:List (List Qap)} {i:Nat} {row:List Qap} (h:gs[i]?=some row):(Rcx gs)[i]?=some (Qkj (Qcy (gs.take i)) row):=by unfold Rcx;rw [Yt,List.getElem?_range (Zs h).1,Option.map_some,Ya,h];rfl
theorem Rcy {s j:Nat}{row:List Qap}(h:j<row.length):((Qkj s row).take j ++List.replicate (row.length-j) 0).set j ((s+Qfe (row.take j):Nat):Int)=(Qkj s row).take (j+1) ++List.replicate (row.length-(j+1)) 0:=by
 have hl:((Qkj s row).take j).length=j:=by rw [Yw,Qfz];omega
 have e:=Qvs (s:=s) h;rw [List.set_append_right _ _ (by rw [hl];exact Zn _),hl,Yy,Yf (by rw [Qfz];exact h),(Zs e).2];obtain ⟨m,hm⟩:∃ m,row.length-j=m+1:=⟨row.length-j-1,Oo⟩;rw [hm,show row.length-(j+1)=m by omega];simp [List.replicate_succ]
structure OvV (W:World) (o:Nat) (Q F T G S:Oz) (L m cq cf ct cg cs:Nat) (ar:List Tri) (ls:Lz):Prop where
 n0:W.cell? ⟨o,0,none⟩=some (.slice Q L cq)
 n1:W.cell? ⟨o,1,none⟩=some (.slice F m cf)
 n2:W.cell? ⟨o,2,none⟩=some (.slice T m ct)
 n3:W.cell? ⟨o,3,none⟩=some (.slice G L cg)
 n4:W.cell? ⟨o,4,none⟩=some (.slice S L cs)
 n5:W.cell? ⟨o,5,none⟩=some (.int .i64 ((Qcy (Qah ar ls):Nat):Int))
 part:RdT W Q L ls
 fr:RdI W F m (ar.map (·.1))
 to:RdI W T m (ar.map (·.2.1))
 gates:RdG W G L (Qah ar ls)
 starts:RdT W S L (Rcx (Qah ar ls))
 c0:L≤cq∧cq≤9223372036854775807
def Qjm (W:World)(o:Nat)(ar:List Tri) (ls:Lz):Prop:=∃ (Q F T G S:Oz) (L m cq cf ct cg cs:Nat),OvV W o Q F T G S L m cq cf ct cg cs ar ls
theorem Qjm.le {W W':World}{o:Nat}{ar:List Tri} {ls:Lz} (h:Qjm W o ar ls) (hl:Le W W'):Qjm W' o ar ls:=by obtain ⟨Q,F,T,G,S,L,m,cq,cf,ct,cg,cs,h⟩:=h;exact ⟨Q,F,T,G,S,L,m,cq,cf,ct,cg,cs,hl _ _ h.n0,hl _ _ h.n1,hl _ _ h.n2,hl _ _ h.n3,hl _ _ h.n4,hl _ _ h.n5,h.part.le hl,h.fr.le hl,h.to.le hl,h.gates.le hl,h.starts.le hl,h.c0⟩
theorem Qjm.below {W W':World}{o:Nat}{ar:List Tri} {ls:Lz} (h:Qjm W o ar ls) (hb:Bw W W'):Qjm W' o ar ls:=h.le (Le.below hb)
theorem Qcd {ar:List Tri}{l:Iz}{c:Nat}{x:Qap} (h:(Qaf ar l)[c]?=some x):x.1.length≤ar.length∧x.2.length≤ar.length:=by
 have hc:c<(Qay l).toNat:=by rw [←Qau ar l];exact (Zs h).1
 rw [Qdd hc] at h;cases h;exact ⟨Yx (List.length_filter_le _ _) (Qrf _ _),Yx (List.length_filter_le _ _) (Qrf _ _)⟩
theorem Ran {l:List Nat}{b:Nat}(h:∀ x∈l,x≤b):l.sum≤l.length*b:=by
 induction l with
 | nil=>simp
 | cons x t ih =>have h1:=h x (List.mem_cons_self ..);have h2:=ih (fun y hy=>h y (List.mem_cons_of_mem _ hy));simp only [List.sum_cons,List.length_cons,Nat.add_mul,Nat.one_mul];omega
theorem Ria {ar:List Tri}{l:Iz}{j n:Nat}(ha:ar.length≤16384)(hl:Qgz n l)(hn:n≤4096):Qfe ((Qaf ar l).take j)≤4096*268435456:=by unfold Qfe;refine Yx (Ran (b:=268435456) (fun y hy=>?_)) ?_;{obtain ⟨x,hx,rfl⟩:=List.mem_map.1 hy;obtain ⟨c,hc⟩:=Yr (List.mem_of_mem_take hx);have h1:=Qcd hc;unfold szG;exact Yx (Nat.mul_le_mul (show x.1.length≤16384 by omega) (show x.2.length≤16384 by omega)) Oo};{refine Nat.mul_le_mul_right _ ?_;rw [List.length_map,Yw,Qau];have:=Qcr (l:=l) (n:=(n:Int)) (fun x hx=>hl.hi x hx) Oo;omega}
theorem sumA_le {ar:List Tri} {ls:Lz} {i n:Nat} (ha:ar.length≤16384) (hP:Qbt n ls) (hn:n≤4096):Qcy ((Qah ar ls).take i)≤6*(4096*268435456):=by unfold Qcy;refine Yx (Ran (b:=4096*268435456) (fun y hy=>?_)) ?_;{obtain ⟨row,hrow,rfl⟩:=List.mem_map.1 hy;have hm:=List.mem_of_mem_take hrow;unfold Qah at hm;obtain ⟨l,hl,rfl⟩:=List.mem_map.1 hm;have:=Ria (j:=(Qaf ar l).length) ha (hP.lvl l hl) hn;rw [List.take_length] at this;exact this};{refine Nat.mul_le_mul_right _ ?_;have:=hP.l6;simp [Qah];omega}
theorem Qhg {ar:List Tri}{l:Iz}{c:Nat}{x:Qap} (h:(Qaf ar l)[c]?=some x):x.1.Pairwise (·<·):=by
 have hc:c<(Qay l).toNat:=by rw [←Qau ar l];exact (Zs h).1
 rw [Qdd hc] at h;cases h;exact List.Pairwise.filter _ (Qnf _ _)
theorem Qhh {ar:List Tri}{l:Iz}{c:Nat}{x:Qap} (h:(Qaf ar l)[c]?=some x):x.2.Pairwise (·<·):=by
 have hc:c<(Qay l).toNat:=by rw [←Qau ar l];exact (Zs h).1
 rw [Qdd hc] at h;cases h;exact List.Pairwise.filter _ (Qnf _ _)
theorem Qyb (o:Nat)(ar:List Tri) (ls:Lz) (w:World) (h:Qjm w o ar ls):Calls prog 71 #[.pointer (some ⟨o,0,none⟩)] w fun e w'=>e=.returned (.int .i64 (ls.length:Int))∧w=w':=by
 obtain ⟨Q,F,T,G,S,L,m,cq,cf,ct,cg,cs,h⟩:=h;have h0:=h.n0;have HL:=Zh h.part.1;clear h;go_enter func71,ntmps71
 go_wp2;go_ret;exact ⟨Qav (by rw [HL.o]),rfl⟩
theorem Qva (o:Nat)(ar:List Tri) (ls:Lz) (w:World) (h:Qjm w o ar ls):Calls prog 70 #[.pointer (some ⟨o,0,none⟩)] w fun e w'=>e=.returned (.int .i64 ((Qcy (Qah ar ls):Nat):Int))∧w=w':=by
 obtain ⟨Q,F,T,G,S,L,m,cq,cf,ct,cg,cs,h⟩:=h;have h0:=h.n5;clear h;generalize Qcy (Qah ar ls)=z at *;go_enter func70,ntmps70
 go_wp2;exact Kax
theorem Qdb {ar:List Tri} {ls:Lz} {i:Nat} {l:Iz} (h:ls[i]?=some l):(Qah ar ls)[i]?=some (Qaf ar l):=by unfold Qah;rw [Yt,h];rfl
theorem Qoh (o i M:Nat)(ar:List Tri) (ls:Lz) (l:Iz) (w:World) (h:Qjm w o ar ls) (hl:ls[i]?=some l) (hL:ls.length≤1000000) (hM:(Qay l).toNat=M):Calls prog 72 #[.pointer (some ⟨o,0,none⟩),.int .i64 ((i:Int)+1)] w fun e w'=>e=.returned (.int .i64 (M:Int))∧w=w':=by
 obtain ⟨Q,F,T,G,S,L,m,cq,cf,ct,cg,cs,h⟩:=h;have h0:=h.n3;have hi:i<L:=by rw [←h.part.1];exact (Zs hl).1
 have hLL:L≤1000000:=by rw [←h.part.1];exact hL
 obtain ⟨row,gb,go_,A,n,c,hrow,rfl,hc,hr,_⟩:=h.gates.at_ hi;rw [Qdb hl] at hrow;cases hrow;have HN:=Zh (show n=M by rw [←hr.1,Qau,hM]);clear hM;have i1:0≤(i:Int):=Oo
 have i2:(i:Int)<L:=Oo
 have i3:¬((i:Int)+1<1):=Oo
 have i4:¬((i:Int)+1 > L):=Oo
 have i5:(i:Int)+1-1=i:=Oo
 clear h hl hr hL;go_enter func72,ntmps72
 go_wp2;go_ret;exact ⟨Qav (by rw [HN.o]),rfl⟩
theorem Qya (o i k M:Nat)(ar:List Tri) (ls:Lz) (l:Iz) (w:World) (h:Qjm w o ar ls) (hl:ls[i]?=some l) (hL:ls.length≤1000000) (hM:(Qay l).toNat=M) (hk:k<M):Calls prog 181 #[.pointer (some ⟨o,0,none⟩),.int .i64 ((i:Int)+1),.int .i64 k] w fun e w'=>e=.returned (.bool true)∧w=w':=by
 have HC:=Zh (Qoh o i M ar ls l w h hl hL hM);clear h hl hL hM;have i1:0≤(k:Int):=Oo
 have i2:(k:Int)<M:=Oo
 go_enter func181,ntmps181
 go_wp2_with fail
 with_reducible refine HC.o.mono ?_
 rintro e w' ⟨rfl,rfl⟩;go_wp2_with fail
 go_ret;exact ⟨Qao (by first|(simp;done)|(simp;omega)),rfl⟩
theorem Qoi (o i k:Nat)(ar:List Tri) (ls:Lz) (l:Iz) (x:Qap) (w:World) (h:Qjm w o ar ls) (hl:ls[i]?=some l) (hL:ls.length≤1000000) (hx:(Qaf ar l)[k]?=some x) (ha:ar.length≤1000000) :
 Calls prog 123 #[.pointer (some ⟨o,0,none⟩),.int .i64 ((i:Int)+1),.int .i64 k] w fun e w'=>∃ A1 n1 c1 A2 n2 c2,e=.returned (.agg #[.slice A1 n1 c1,.slice A2 n2 c2])∧Own w' w.heap.size 3 1 A1 n1 c1 (Qae x.1)∧Own w' w.heap.size 3 1 A2 n2 c2 (Qae x.2)∧Bw w w':=by
 have hk:k<(Qay l).toNat:=by rw [←Qau ar l];exact (Zs hx).1
 have HH:=Zh (show ∀ V,Bw w V→Calls prog 181 #[.pointer (some ⟨o,0,none⟩),.int .i64 ((i:Int)+1),.int .i64 k] V fun e w'=>e=.returned (.bool true)∧V=w' from fun V hV=>Qya o i k _ ar ls l V (h.below hV) hl hL rfl hk);obtain ⟨Q,F,T,G,S,L,m,cq,cf,ct,cg,cs,h⟩:=h;have h0:=h.n3;have hi:i<L:=by rw [←h.part.1];exact (Zs hl).1
 have hLL:L≤1000000:=by rw [←h.part.1];exact hL
 obtain ⟨row,gb,go_,A,n,c,hrow,rfl,hc,hr,_⟩:=h.gates.at_ hi;rw [Qdb hl] at hrow;cases hrow;have hn:n=(Qay l).toNat:=by rw [←hr.1,Qau]
 obtain ⟨y,cb,co,A1,n1,c1,A2,n2,c2,hy,rfl,hc1,hr1,hc2,hr2,_⟩:=hr.at_ (c:=k) Oo;rw [hx] at hy;cases hy;have hg:=Qcd hx;have HR1:=Zh hr1;have HR2:=Zh hr2;have hn1:n1≤1000000:=by rw [←hr1.1];omega
 have hn2:n2≤1000000:=by rw [←hr2.1];omega
 have h0a:=fun ob=>Zc (show Bw w (w.alloc ob) from Qag) (Zn _) h0
 have hca:=fun ob=>Zc (show Bw w (w.alloc ob) from Qag) (Zn _) hc
 have hc1a:=fun ob=>Zc (show Bw w (w.alloc ob) from Qag) (Zn _) hc1
 have hc2a:=fun ob=>Zc (show Bw w (w.alloc ob) from Qag) (Zn _) hc2
 have i1:0≤(i:Int):=Oo
 have i2:(i:Int)<L:=Oo
 have i5:(i:Int)+1-1=i:=Oo
 have i6:0≤(k:Int):=Oo
 have i7:(k:Int)<n:=Oo
 clear h hl hr hL hx hr1 hr2 hn hk;go_enter func123,ntmps123
 go_wp2_with fail
 with_reducible refine (HH.o _ Qag).mono ?_
 rintro e w' ⟨rfl,rfl⟩;go_wp2_with fail
 (refine Qai ?_;intro w3 hw3);have hb3:Bw w w3:=by rw [hw3];exact Qag
 have hZ:Blk w3 w.heap.size 215 #[.slice none 0 0,.slice none 0 0]:=by rw [hw3];exact Qbi
 have hX:Blk w3 (w.heap.size+1) 215 #[.slice A1 n1 c1,.slice A2 n2 c2]:=by rw [hw3];exact Qbi
 clear hw3 h0a hca hc1a hc2a;have HSX:=Zh (show ∀ V,Blk V (w.heap.size+1) 215 #[.slice A1 n1 c1,.slice A2 n2 c2]→V.cell? ⟨w.heap.size+1,0,none⟩=some (.slice A1 n1 c1)∧V.cell? ⟨w.heap.size+1,1,none⟩=some (.slice A2 n2 c2) from fun V hV=>⟨hV.two.1,hV.two.2.1⟩);refine wp_region_held_drew (S:=fun V=>Blk V (w.heap.size+1) 215 #[.slice A1 n1 c1,.slice A2 n2 c2]) Kf hX.drew (fun _=>?_);refine tzb 0 25 ?_;refine tzb 3 28 ?_;refine Zk 2 (fun K hK=>?_);go_simp;with_reducible refine (Qno A1 n1 c1 x.1 _ (HR1.o.below (show Bw w w3.drew from Qag)) hn1).mono ?_
 rintro e w4 ⟨B1,d1,rfl,ho1,hb4⟩;have hb34:Bw w3 w4:=(Zr _ w3).drew.trans hb4;have hX4:=hX.below hb34 hX.lt;have hZ4:=hZ.below hb34 hZ.lt;have hb4':=Zb hb3 hb34;clear hb4;go_wp2_with fail
 refine hK.out _ _ hX4 (fun _=>?_);clear hK K;refine Zk 5 (fun K hK=>?_);go_simp;with_reducible refine (Qno A2 n2 c2 x.2 w4 (HR2.o.below hb4') hn2).mono ?_
 rintro e w5 ⟨B2,d2,rfl,ho2,hb5⟩;have hX5:=hX4.below hb5 hX4.lt;have hZ5:=hZ4.below hb5 hZ4.lt;have hb5':=Zb hb4' hb5;have ho1':=ho1.below hb5;have hz3:=hb34.size;have hzX:=hX.lt;replace ho1':Own w5 w3.heap.size 3 1 B1 n1 d1 (Qae x.1):=ho1'
 clear ho1 hb5;go_wp2_with fail
 refine hK.out _ _ hX5 (fun _=>?_);clear hK K;refine tz 6 31 ?_;obtain ⟨z0,z1,zf0,zf1⟩:=hZ5.two;refine Zk 7 (fun K hK=>?_);go_simp;refine hK.out _ _ ((hX5.far_ Oo _).far_ Oo _) (fun _=>?_);clear hK K;refine Zd ?_;have HF1:=Zh (((ho1'.far (Qac w5 w.heap.size 0 (.slice B1 n1 d1)) (.inr (ho1'.ne Oo))).far (Qac _ w.heap.size 1 (.slice B2 n2 d2)) (.inr (ho1'.ne Oo))).mono (show w.heap.size≤w3.heap.size by omega));have HF2:=Zh (((ho2.far (Qac w5 w.heap.size 0 (.slice B1 n1 d1)) (.inr (ho2.ne Oo))).far (Qac _ w.heap.size 1 (.slice B2 n2 d2)) (.inr (ho2.ne Oo))).mono (show w.heap.size≤w4.heap.size by omega));clear ho1' ho2;go_wp2_with fail
 refine bodyPost_ret (v:=.agg #[.slice B1 n1 d1,.slice B2 n2 d2]) (by simp [results,results123,go_sem,z0,z1]) rfl ?_;exact ⟨B1,n1,d1,B2,n2,d2,rfl,HF1.o,HF2.o,Qag⟩
theorem count_lt {l:Iz} (h:l.Pairwise (·<·)) {k:Nat} {v:Int} (hk:l[k]?=some v):l.countP (·<v)=k:=by
 induction l generalizing k with
 | nil=>simp at hk
 | cons x t ih =>
  rw [List.pairwise_cons] at h
  cases k with
  | zero =>simp at hk;subst hk;rw [List.countP_eq_zero];intro y hy;(rcases List.mem_cons.1 hy with rfl|hy);{simp};{have:=h.1 y hy;simp;omega}
  | succ k =>simp at hk;have hx:=h.1 v (Zm hk);rw [List.countP_cons,ih h.2 hk];simp [hx]
theorem Qfy {l:Iz} (h:l.Pairwise (·<·)) {k:Nat} {v:Int} (hk:l[k]?=some v):plI l v=k:=by refine Qsl hk (fun j x hj hx e=>?_);subst e;rw [List.pairwise_iff_getElem] at h;have h1:=(Zs hx);have h2:=(Zs hk);have:=h j k h1.1 h2.1 hj;rw [h1.2,h2.2] at this;omega
theorem Qjw (A:Oz)(n c:Nat)(l:Iz)(v:Int)(w:World)(h:RdI w A n l) (hs:l.Pairwise (·<·)) (hn:n≤1000000) :
 Calls prog 183 #[.slice A n c,.int .i64 v] w fun e w'=>e=.returned (.int .i64 (plI l v))∧Bw w w':=by
 have hb:∃ (p:Nat) (t:Bool),Calls prog 219 #[.slice A n c,.int .i64 v] w (fun e w'=>e=.returned (.tuple #[.int .i64 (p:Int),.bool t])∧Bw w w')∧plI l v=if t then (p:Int) else -1:=by
  cases n with
  | zero =>have hl:l=[]:=List.eq_nil_of_length_eq_zero h.1;subst hl;refine ⟨0,false,?_,by simp [Qdn]⟩;refine Calls.mono (show Calls prog 219 _ _ _ from Any.slices_BinarySearch_int_empty searchL A c v w) ?_;rintro e w' ⟨rfl,rfl⟩;exact ⟨rfl,Zr _ _⟩
  | succ n =>
   obtain ⟨b,o,x,rfl,hx,hc⟩:=h.at_ (i:=0) Oo
   have hcon:=Any.slices_BinarySearch_int searchL b o (n+1) c l v w (by rw [h.1];exact Zn _) Oo (fun j hj=>by
    obtain ⟨b',o',y,e,hy,hc'⟩:=h.at_ (i:=j) (by rw [←h.1];exact hj)
    cases e
    rw [Ya,hy];exact hc') (by rw [Ye (by rw [h.1];exact Zn _)];exact hs.imp (fun h=>by omega))
   rw [Ye (by rw [h.1];exact Zn _)] at hcon;refine ⟨l.countP (·<v),l.contains v,?_,?_⟩;{refine Calls.mono (show Calls prog 219 _ _ _ from hcon) ?_;rintro e w' ⟨rfl,q,rfl⟩;exact ⟨rfl,Qbd (Zr _ _) q⟩};{by_cases hm:v∈l;{obtain ⟨k,hk⟩:=Yr hm;rw [Qfy hs hk,count_lt hs hk,if_pos (by simpa using hm)]};{rw [Qdn hm,if_neg (by simpa using hm)]}}
 obtain ⟨p,t,hcall,hp⟩:=hb;have HC:=Zh hcall;have HP:=Zh hp;clear hcall hp h hs;go_enter func183,ntmps183
 go_wp2_with fail
 with_reducible refine HC.o.mono ?_
 rintro e w' ⟨rfl,hb⟩;cases t;{(go_wp2_with fail);go_ret;exact ⟨Qav (by rw [HP.o];rfl),hb⟩};{(go_wp2_with fail);go_ret;exact ⟨Qav (by rw [HP.o];rfl),hb⟩}
