/- Qbl of the proof: ReK, ReC, ReR, TlB, LwK. -/
import Derived.Test.YtkaaakbejnlbgaaGreatDoorE30
import Derived.Test.YtkaaakbejnlbgaaGreatDoorE32
import Derived.Test.YtkaaakbejnlbgaaGreatDoorE35
set_option maxHeartbeats 4000000
set_option maxRecDepth 100000
namespace Go.Proofs.YtkaaakbejnlbgaaGreatDoor
open Go.RowKit Go.Proofs.Tryz
attribute [local go_sem ↓] Go.wp_at_zero Go.wp_at_succ
def JdgI (w:World)(tb N:Nat)(P r:Iz)(c:Int)(e:Ending)(w':World):Prop:=∃ sl:Iz,e=.returned (.int .i64 c)∧Blk w' tb 3 (Qbr sl)∧(r≠[]→Qhd N P r=none→Qtd N sl (P ++r))∧Aft (fun b=>b≠tb) w w'
theorem Qyl (w:World)(dep cap lim:Int)(A R T:Oz)(n c m d tc tb:Nat) (st:Pz) (ls:Lz) (r P:Iz) (sl:Iz) (h:RdP (msk w (fun b=>b≠tb)) A n st) (hL:Qtb st) (hr:RdI (msk w (fun b=>b≠tb)) R m r) (ht:RdT (msk w (fun b=>b≠tb)) T (n+1) ls) (hs:Sq (n+1) ls) (hn:n≤1000000) (hm:m≤1000000) (hB:Blk w tb 3 (Qbr sl)) (hse:Qtd n sl P) :
 Calls prog 57 #[Qia dep cap lim A n c,.slice T (n+1) tc,.slice R m d,.slice (some ⟨tb,0,none⟩) (n+1) (n+1)] w (JdgI w tb n P r (Qzt n cap lim ls st P r)):=by
 have HLD:=Zh (fun V (hV:Aft (fun b=>b≠tb) w V)=>Qor dep cap lim A R n c m d st r V ((h.le (Qaz.msk hV.kept)).le (Qan _ _)) hL ((hr.le (Qaz.msk hV.kept)).le (Qan _ _)) Oo Oo);have HLE:=Zh (fun V (hV:Aft (fun b=>b≠tb) w V)=>Qgr T R (n+1) tc m d ls r V ((ht.le (Qaz.msk hV.kept)).le (Qan _ _)) hs Oo ((hr.le (Qaz.msk hV.kept)).le (Qan _ _)) Oo);have HR:=Zh hr;have HRL:=Zh hr.1;have HB:=Zh hB;have HSE:=Zh hse;obtain ⟨jc,hjc⟩:∃ x,x=Qzt n cap lim ls st P r:=⟨_,rfl⟩;have HJC:=Zh hjc;rw [←hjc];clear h hL hr ht hs hB hse hjc;by_cases hm0:m=0;{have hr0:=List.eq_nil_of_length_eq_zero (HRL.o.trans hm0);have HE:=Zh (show jc=1 by rw [HJC.o];exact if_pos hr0);have HR0:=Zh hr0;subst hm0;clear hr0;(go_enter func57,ntmps57);(go_wp2_with fail);go_ret;unfold JdgI;rw [HE.o];exact ⟨sl,rfl,Blk.alloc HB.o _,fun h=>absurd HR0.o h,Aft.bt ((Zr _ _).alloc (Zn _) _) HB.o.lt⟩};have HNE:=Zh (show r≠[] from fun e=>hm0 (by rw [←HRL.o,e];rfl));have HJ1:=Zh (show ∀ x,Qhd n P r=some x→jc=x from fun x hx=>by rw [HJC.o];unfold Qzt;rw [if_neg HNE.o,hx]);have HJ2:=Zh (show Qhd n P r=none→jc=if Qdm st r > cap then 13 else if Qer ls r ≥ 1152921504606846976 then 12 else if Qer ls r > lim then 14 else 0 from fun hx=>by rw [HJC.o];unfold Qzt;rw [if_neg HNE.o,hx]);have e0:((m:Int) == 0)=false:=beq_eq_false_iff_ne.2 Oo;clear HJC;go_enter func57,ntmps57
 go_wp2_with fail
 (refine Qai ?_;intro w1 hw1);have hb1:Bw w w1:=by rw [hw1];exact Qag
 have HA1:=Zh (Aft.bt hb1 HB.o.lt);have HX1:=Zh (show Blk w1 w.heap.size 32 #[.int .i64 dep,.int .i64 cap,.int .i64 lim,.slice A n c] by rw [hw1];exact Blk.new _ _ _);have HB1:=Zh (HB.o.below hb1 HB.o.lt);have HTL:=Zh HB.o.lt;clear hw1 hb1 HB;go_loopw [8,9] (fun z q W=>z=.int .i64 0∧∃ (i:Nat) (sl:Iz),i≤m∧q=.int .i64 i∧Blk W tb 3 (Qbr sl)∧Qtd n sl (P ++r.take i)∧Qhd n P r=Qhd n (P ++r.take i) (r.drop i)∧Blk W w.heap.size 32 #[.int .i64 dep,.int .i64 cap,.int .i64 lim,.slice A n c]∧Aft (fun b=>b≠tb) w W) (fun _ q _=>m-(intOf q).toNat)
 case atStart=>exact ⟨rfl,0,sl,Nat.zero_le _,rfl,HB1.o,by simpa using HSE.o,Sm,HX1.o,HA1.o⟩
 case round =>
  clear HB1 HX1 HA1 HSE;obtain ⟨rfl,i,sl,hi,rfl,hb,hse,hst,hx,ha⟩:=hrel;have HB:=Zh hb;have HSE:=Zh hse;have HST:=Zh hst;have HX:=Zh hx;have HA:=Zh ha;clear hb hse hst hx ha;by_cases hlt:i<m
  rotate_left;{(obtain rfl:i=m:=Oo);(have i1:¬(i:Int)<i:=Oo);(have hst0:Qhd n P r=none:=by rw [HST.o,List.drop_of_length_le (by rw [HRL.o];exact Zn _)];rfl);have HEQ:=Zh (HJ2.o hst0);have HSX0:=Zh (show r≠[]→Qhd n P r=none→Qtd n sl (P ++r) from fun _ _=>by have:=HSE.o;rwa [Ye (by rw [HRL.o];exact Zn _)] at this);have HLX:=Zh (HLE.o wr HA.o);have hlr:=Qxn ls r;obtain ⟨lr,hlr'⟩:∃ x,x=Qer ls r:=⟨_,rfl⟩;rw [←hlr'] at hlr;unfold INF at hlr;obtain ⟨ld,hld'⟩:∃ x,x=Qdm st r:=⟨_,rfl⟩;have HLDX:=Zh (fun V (hV:Bw wr V)=>HLD.o V (HA.o.trans (Aft.bt hV HB.o.lt)));rw [←hlr'] at HLX HEQ;rw [←hld'] at HLDX HEQ;obtain ⟨x0,x1,x2,x3⟩:=HX.o.four;have HSX:=Zh (show ∀ V,Bw wr V→V.cell? ⟨w.heap.size,0,none⟩=some (.int .i64 dep)∧V.cell? ⟨w.heap.size,1,none⟩=some (.int .i64 cap)∧V.cell? ⟨w.heap.size,2,none⟩=some (.int .i64 lim)∧V.cell? ⟨w.heap.size,3,none⟩=some (.slice A n c) from fun V hV=>(HX.o.below hV HX.o.lt).four);clear hst0 hlr' hld' HLE HLD x0 x1 x2 x3;(go_wp2_with fail);(with_reducible refine HLX.o.mono ?_);rintro e w2 ⟨rfl,hb2⟩;have HB2:=Zh hb2;have HLDX:=Zh (HLDX.o w2.drew (hb2.drew));clear hb2;(go_wp2_with fail);(refine wp_region_held_drew (S:=fun V=>Bw wr V) Kf HB2.o.drew (fun _=>?_);refine tzb 0 49 ?_;refine tzb 3 52 ?_;refine Zk 2 (fun K hK=>?_);go_simp;with_reducible refine HLDX.o.mono ?_);rintro e w3 ⟨rfl,hb3⟩;have HB3:=Zh (Zb HB2.o.drew hb3);go_simp;refine hK.out _ _ HB3.o (fun _=>?_);clear hK K hb3;refine tz 5 54 ?_;refine tz 6 48 ?_;refine Zd ?_;have HAX:=Zh (HA.o.trans (Aft.bt HB3.o HB.o.lt));have HBX:=Zh (HB.o.below HB3.o HB.o.lt);obtain ⟨x0,x1,x2,x3⟩:=HSX.o w3 HB3.o;by_cases g1:ld > cap;{have HE:=Zh (show jc=13 by rw [HEQ.o,if_pos g1]);exact Kbp};by_cases g2:lr=1152921504606846976;{have HE:=Zh (show jc=12 by rw [HEQ.o,if_neg g1,if_pos Oo]);exact Kbp};by_cases g3:lr > lim;{have HE:=Zh (show jc=14 by rw [HEQ.o,if_neg g1,if_neg Oo,if_pos g3]);exact Kbp};have HE:=Zh (show jc=0 by rw [HEQ.o,if_neg g1,if_neg Oo,if_neg g3]);exact Kbp};obtain ⟨b,o,y,rfl,hy,hc⟩:=HR.o.at_ hlt;have j1:=Qan _ _ _ _ (Qaz.msk HA.o.kept _ _ hc);have HY:=Zh hy;have hdr:r.drop i=y::r.drop (i+1):=by{rw [List.drop_eq_getElem_cons (Zs hy).1,(Zs hy).2]};have HDR:=Zh hdr;have i1:(i:Int)<m:=Oo
  have i2:0≤(i:Int):=Oo
  clear hy hc hdr;have x3:wr.cell? ⟨w.heap.size,3,none⟩=some (.slice A n c):=Zq HX.o;by_cases g1:y<1
  {(have hx:=show Qhd n P r=some 5 by rw [HST.o,HDR.o];exact if_pos (.inl g1));exact Kbu};by_cases g2:y > (n:Int);{(have hx:=show Qhd n P r=some 5 by rw [HST.o,HDR.o];exact if_pos (.inr Oo));exact Kbu};obtain ⟨z,rfl⟩:∃ z:Nat,y=z:=⟨y.toNat,Oo⟩;have hz:z≤n:=Oo
  have hsz:=HSE.o.2 z hz;have c2:=HB.o.cellI hsz;have i5:0≤(z:Int):=Oo
  have i6:(z:Int)<n+1:=Oo
  by_cases g3:(z:Int)∈P ++r.take i;{rw [if_pos g3] at c2;have hx:=show Qhd n P r=some 6 by{exact Kcv};have HE:=Zh (HJ1.o 6 hx);have HF:=Zh (show r≠[]→Qhd n P r=none→Qtd n sl (P ++r) from fun _ h=>by rw [hx] at h;cases h);clear hx g3 hsz;(go_wp2_with fail);go_ret;unfold JdgI;rw [HE.o];exact ⟨sl,rfl,HB.o,HF.o,HA.o⟩};rw [if_neg g3] at c2;have f2:=HB.o.frozen z;have HT:=Zh (Qpa HY.o P);have HSE2:=Zh (HSE.o.next hz);rw [←HT.o] at HSE2
  have HSN:=Zh (show Qhd n P r=Qhd n (P ++r.take (i+1)) (r.drop (i+1)) by
   rw [HST.o,HDR.o,HT.o]
   show (if (z:Int)<1∨(n:Int)<z then some 5 else if (z:Int)∈P ++r.take i then some 6 else _)=_
   rw [if_neg Oo,if_neg g3])
  have HX2:=Zh (show w.heap.size≠tb from by have:=HTL.o;omega);clear g3 hsz;go_wp2_with fail
  go_roundw;case rel=>exact ⟨rfl,i+1,_,Oo,by go_num,HB.o.setI rfl,HSE2.o,HSN.o,HX.o.far_ HX2.o _,HA.o.set (fun h=>h rfl) _⟩
  case measure=>simp [intOf];omega
def ChkW (w:World)(N:Qak)(dep cap lim:Int)(n:Nat) (st:Pz) (rs:Lz) (cost:Int) (e:Ending) (w':World):Prop:=∃ b,PlC N dep cap lim n st rs cost b∧WgP w b e w'
theorem Qoq (w:World)(NA NB NT:Oz)(nn m nk qc qd qe:Nat)(N:Qak)(dep cap lim:Int)(A:Oz)(n c:Nat) (st:Pz) (RA:Oz) (rn rc:Nat) (rs:Lz) (cost:Int) (h:Qcp w NA NB NT nn m nk N) (hok:Qar N) (hj:RdP w A n st) (hn:n≤900) (hr:RdT w RA rn rs) (hrn:rn≤1000000) (hsh:∀ r∈rs,r.length≤1000000) :
 Calls prog 23 #[.agg #[.slice NA nn qc,.slice NB m qd,.slice NT nk qe],Qia dep cap lim A n c,.agg #[.slice RA rn rc,.int .i64 cost]] w (ChkW w N dep cap lim n st rs cost):=by
 have HMM:=Zh (show m=N.ar.length from h.2.1.1.symm);have HCK:=Zh (fun V (hV:Bw w V)=>Qhn m dep cap lim A n c st V (hj.below hV) Oo);have HPT:=Zh (fun V (hV:Bw w V)=>Qkg dep cap lim A n c st V (hj.below hV) Oo);have HMO:=Zh (fun V (hV:Bw w V) R d (hR:RdI V R (n+1) (Qif dep st))=>Qjh NA NB NT R nn m nk qc qd qe (n+1) d N (Qif dep st) V (h.below hV) hok hR Oo);have HOK:=Zh hok;have HJ:=Zh hj;have HR:=Zh hr;have HRL:=Zh hr.1;have HSH:=Zh hsh
 have hmk:∀ W,(Instr.makeSlice 64 (.int .i64 ((n:Int)+1)) (.int .i64 ((n:Int)+1))).run prog W=.ok (.slice (some ⟨W.heap.size,0,none⟩) (n+1) (n+1)) (W.alloc (.cells (Qbg (.int .i64 0) (n+1)) 3)) :=
  fun W=>Qcv (P:=prog) 64 3 (.int .i64 0) 8 Qbm underlying64 rfl (n+1) Oo Oo .i64 .i64 W
 clear h hok hj hr hsh;go_enter func23,ntmps23
 go_wp2_with fail
 (refine Qab ?_;intro w1 hw1);have HB1:=Zh (show Bw w w1 by rw [hw1];exact Qag);have HX1:=Zh (show Blk w1 w.heap.size 26 #[.slice NA nn qc,.slice NB m qd,.slice NT nk qe] by rw [hw1];exact Qbi);have HJ1:=Zh (show Blk w1 (w.heap.size+1) 32 #[.int .i64 dep,.int .i64 cap,.int .i64 lim,.slice A n c] by rw [hw1];exact Qbi);have HP1:=Zh (show Blk w1 (w.heap.size+1+1) 50 #[.slice RA rn rc,.int .i64 cost] by rw [hw1];exact Qbi);have HR1:=Zh (show Blk w1 (w.heap.size+1+1+1) 53 #[.slice none 0 0,.int .i64 0] by rw [hw1];exact Qbi);clear hw1;with_reducible refine (HCK.o w1 HB1.o).mono ?_
 cases hjb:Qbf m dep cap lim st with
 | some x =>
  obtain ⟨px,kx,cx⟩:=x;unfold WgP;rintro e w2 ⟨⟨A4,n4,m4,rfl,h4,h5,hfr⟩,hb2⟩;have HPC:=Zh (show PlC N dep cap lim n st rs cost (some (px,kx,cx)) from .inl ⟨_,by rw [←HMM.o];exact hjb,rfl⟩);have hR2:=HR1.o.below hb2 HR1.o.lt;obtain ⟨d0,d1,f0,f1⟩:=hR2.two;have hcx:cx≠0:=Qsa hjb;have i8:(cx != 0)=true:=by simpa using hcx
  have hlt1:=hR2.lt;have hlt0:=HR1.o.lt;have hsz2:=hb2.size;have hb1':=Zb HB1.o hb2;clear hjb;go_wp2_with fail
  (refine Qce ?_;intro Wf hWf);have hbf:Bw w Wf:=by rw [hWf];exact Bel.alloc ((hb1'.setCell Sn _).setCell Sn _)
  have hRf:Blk Wf (w.heap.size+1+1+1) 53 #[.slice A4 n4 m4,.int .i64 cx]:=by{rw [hWf];exact Blk.alloc ((hR2.set_ 0 _).set_ 1 _) _};have hf2:∀ b,Qaa A4=some b→b≠w.heap.size+1+1+1∧b<w2.heap.size:=fun b e=>⟨by have:=(hfr b e).1;omega,(hfr b e).2⟩
  have hWd:RdW Wf A4 n4 [(px,kx)]:=by{rw [hWf];exact RdW.below (RdW.setFar (h4.setFar _ 0 (.slice A4 n4 m4) hf2) _ 1 (.int .i64 cx) (fun b e=>⟨(hf2 b e).1,by simpa [World.setCell] using (hf2 b e).2⟩)) ((Zr _ _).alloc (Zn _) _)};have q0:Wf.cell? ⟨w.heap.size+1+1+1,0,none⟩=some (.slice A4 n4 m4):=Zq hRf;have q1:Wf.cell? ⟨w.heap.size+1+1+1,1,none⟩=some (.int .i64 cx):=Zq hRf;have hzf:w2.heap.size≤Wf.heap.size:=by rw [hWf];simp [World.setCell]
  refine bodyPost_ret (v:=.agg #[.slice A4 n4 m4,.int .i64 cx]) (by simp [results,results23,go_sem,q0,q1]) rfl ?_;unfold ChkW WgP;exact ⟨some (px,kx,cx),HPC.o,⟨_,_,_,rfl,hWd,h5,fun b e=>⟨by have:=(hfr b e).1;omega,by have:=(hfr b e).2;omega⟩⟩,hbf⟩
 | none =>
  have HJK:=Zh (Qex hjb);unfold WgP;rintro e w2 ⟨rfl,hb2⟩;have HJN0:=Zh (show Qbf N.ar.length dep cap lim st=none by rw [←HMM.o];exact hjb);obtain ⟨wx,hwx⟩:=Zx (w2.alloc (.cells #[.slice none 0 0,.int .i64 0] 53));have hb2x:Bw w2 wx:=by rw [hwx];exact Qag
  have HB2:=Zh (Zb hb2 hb2x);have HWX:=Zh hwx;clear hb2 hb2x hwx hjb
  have HSX:=Zh (show ∀ V,Bw w1 V→V.cell? ⟨w.heap.size,0,none⟩=some (.slice NA nn qc)∧V.cell? ⟨w.heap.size,1,none⟩=some (.slice NB m qd)∧V.cell? ⟨w.heap.size,2,none⟩=some (.slice NT nk qe)∧V.cell? ⟨w.heap.size+1,0,none⟩=some (.int .i64 dep)∧V.cell? ⟨w.heap.size+1,1,none⟩=some (.int .i64 cap)∧V.cell? ⟨w.heap.size+1,2,none⟩=some (.int .i64 lim)∧V.cell? ⟨w.heap.size+1,3,none⟩=some (.slice A n c) from fun V hV=>by
   obtain ⟨a0,a1,a2⟩:=(HX1.o.below hV HX1.o.lt).three;obtain ⟨b0,b1,b2,b3⟩:=(HJ1.o.below hV HJ1.o.lt).four;exact ⟨a0,a1,a2,b0,b1,b2,b3⟩)
  go_wp2_with fail
  rw [←HWX.o];refine wp_region_held_drew (S:=fun V=>Bw w1 V) Kf HB2.o.drew (fun _=>?_);clear HWX;refine tzb 0 22 ?_;refine Zk 2 (fun K hK=>?_);go_simp;with_reducible refine (HPT.o _ (Zb HB1.o HB2.o.drew)).mono ?_
  unfold PtsP;rintro e w3 ⟨⟨R,d,rfl,hR⟩,hb3⟩;have HB3:=Zh (Zb HB2.o.drew hb3);go_simp;refine hK.out _ _ HB3.o (fun _=>?_);clear hK K;refine Zk 3 (fun K hK=>?_);go_simp;with_reducible refine (HMO.o w3 (Zb HB1.o HB3.o) R d hR).mono ?_
  unfold RmlP;rintro e w4 ⟨⟨td,dc,rows,rfl,hrt,hmd⟩,hb4⟩;have HB4:=Zh (Zb HB3.o hb4);have HPC:=Zh (show ∀ b,b=Qkq n cap lim rows st rs cost 0 [] rs→PlC N dep cap lim n st rs cost b from fun b hb=>.inr ⟨HJN0.o,rows,hmd,hb⟩);have HSQ:=Zh (show Sq (n+1) rows by have:=Qlq (hmd.sq HOK.o);rwa [Qgq,HJ.o.1] at this);have HRT:=Zh hrt;go_simp;refine hK.out _ _ HB4.o (fun _=>?_);clear hK K hR hb3 hrt hmd hb4 HB2 HB3 HPT HMO HCK;refine tz 4 8 ?_;refine Zd ?_;have j3:w4.cell? ⟨w.heap.size+1,3,none⟩=some (.slice A n c):=(HSX.o w4 HB4.o).2.2.2.2.2.2;clear HSX;go_wp2_with fail
  (refine Qai ?_;intro w5 hw5);obtain ⟨tb,htb⟩:∃ b,b=w4.heap.size:=⟨_,rfl⟩;have hb5:Below w4.heap.size w4 w5:=by rw [hw5];exact (Zr _ _).alloc (Zn _) _
  have HT5:=Zh (show Blk w5 tb 3 (Qbr (List.replicate (n+1) 0)) by rw [hw5,htb,Qbx];exact Blk.new _ _ _);have HLE:=Zh (show Le w4 (msk w5 (fun b=>b≠tb)) from Le.mskBelow hb5 (fun b hb=>by omega));have hc4:=Zb HB1.o HB4.o;have HB5:=Zh (Zb hc4 hb5);have hb15:=Zb HB4.o hb5;have HB45:=Zh (show w.heap.size+1+1+1<tb from by have:=HR1.o.lt;have:=HB4.o.size;omega);have HP5:=Zh (HP1.o.below hb15 HP1.o.lt);have HJ5:=Zh (HJ1.o.below hb15 HJ1.o.lt);have HR5:=Zh (HR1.o.below hb15 HR1.o.lt);have HRD:=Zh (show RdP (msk w5 (fun b=>b≠tb)) A n st∧RdT (msk w5 (fun b=>b≠tb)) RA rn rs∧RdT (msk w5 (fun b=>b≠tb)) td (n+1) rows from ⟨(HJ.o.below hc4).le HLE.o,(HR.o.below hc4).le HLE.o,HRT.o.le HLE.o⟩);rw [←htb];clear hw5 htb hb5 hc4 hb15 hmk j3 HRT HB4 HJ1 HP1 HX1 HR1;go_loopw [10] (fun q W=>∃ (i:Nat) (sl:Iz),i≤rn∧q=.int .i64 i∧Blk W tb 3 (Qbr sl)∧Qtd n sl (rs.take i).flatten∧Aft (fun b=>b≠tb) w5 W∧Qkq n cap lim rows st rs cost 0 [] rs=Qkq n cap lim rows st rs cost i (rs.take i).flatten (rs.drop i)) (fun q _=>rn-(intOf q).toNat)
  case atStart=>exact ⟨0,_,Nat.zero_le _,rfl,HT5.o,Qtd.start n,Aft.refl _ _,rfl⟩
  case round =>
   clear HT5;obtain ⟨i,sl,hi,rfl,hb,hse,ha,hch⟩:=hrel;have HB:=Zh hb;have HSE:=Zh hse;have HA:=Zh ha;have HJB:=Zh hch;have HJW:=Zh (show Blk wr (w.heap.size+1) 32 #[.int .i64 dep,.int .i64 cap,.int .i64 lim,.slice A n c] from (ha.kept _ (by have:=HB45.o;omega) HJ5.o.lt).trans HJ5.o);have HPW:=Zh (show Blk wr (w.heap.size+1+1) 50 #[.slice RA rn rc,.int .i64 cost] from (ha.kept _ (by have:=HB45.o;omega) HP5.o.lt).trans HP5.o);have HRX:=Zh (show Blk wr (w.heap.size+1+1+1) 53 #[.slice none 0 0,.int .i64 0] from (ha.kept _ (by have:=HB45.o;omega) HR5.o.lt).trans HR5.o);have hle:=Qaz.msk ha.kept;have HRW:=Zh (show RdP (msk wr (fun b=>b≠tb)) A n st∧RdT (msk wr (fun b=>b≠tb)) RA rn rs∧RdT (msk wr (fun b=>b≠tb)) td (n+1) rows from ⟨HRD.o.1.le hle,HRD.o.2.1.le hle,HRD.o.2.2.le hle⟩);have HBX:=Zh (show Bw w wr from HB5.o.trans (ha.bel _ (fun b hb=>by have:=HB45.o;omega)));have x3:wr.cell? ⟨w.heap.size+1,3,none⟩=some (.slice A n c):=Zq HJW.o;have p0:wr.cell? ⟨w.heap.size+1+1,0,none⟩=some (.slice RA rn rc):=Zq HPW.o;clear hb hse ha hch hle;(by_cases hlt:i<rn);rotate_left
   · (obtain rfl:i=rn:=Oo);(have i1:¬(i:Int)<i:=Oo);have hfl:rs.take i=rs:=Ye (by rw [HRL.o];exact Zn _);have hj2:Qkq n cap lim rows st rs cost 0 [] rs=Qte n rows rs cost 0:=by{rw [HJB.o,List.drop_of_length_le (by rw [HRL.o];exact Zn _)];rfl};have HJ2:=Zh hj2;rw [hfl] at HSE;clear hfl hj2 HJB;(go_wp2_with fail);(go_loopw [12] (fun q W=>∃ k:Nat,k≤n∧q=.int .i64 ((k:Int)+1)∧wr=W∧Qkq n cap lim rows st rs cost 0 [] rs=Qte n rows rs cost k) (fun q _=>n+1-(intOf q).toNat));case atStart=>exact ⟨0,Nat.zero_le _,rfl,rfl,HJ2.o⟩
     case round =>
      obtain ⟨k,hk,rfl,rfl,hch⟩:=hrel;have HJB:=Zh hch;clear hch;(by_cases hlt2:k<n);rotate_left
      · (obtain rfl:k=n:=Oo);have k1:¬(k:Int)+1≤k:=Oo
        have HJ3:=Zh (show Qkq k cap lim rows st rs cost 0 [] rs=if cost=Qba rows rs then none else some ((⟨#[112,108,97,110]⟩:ByteArray),0,11) by
         rw [HJB.o];unfold Qte;rw [Qhv Sm])
        have hp4:=HPW.o;have HSX:=Zh (show ∀ V,Bw wr V→V.cell? ⟨w.heap.size+1+1,0,none⟩=some (.slice RA i rc)∧V.cell? ⟨w.heap.size+1+1,1,none⟩=some (.int .i64 cost) from fun V hV=>⟨Zc hV (Zn _) (Zq hp4),Zc hV (Zn _) (Zq hp4)⟩);have HTO:=Zh (Qmb td RA (k+1) dc i rc rows rs wr.drew ((HRW.o.2.2.le (Qan _ _)).below (Zr _ _).drew) HSQ.o Oo ((HRW.o.2.1.le (Qan _ _)).below (Zr _ _).drew) (fun r hr=>by have:=HSH.o r hr;omega) Oo);obtain ⟨tot,htot⟩:∃ t,t=Qba rows rs:=⟨_,rfl⟩;rw [←htot] at HTO HJ3;clear hp4 htot;(go_wp2_with fail);(refine wp_region_held_drew (S:=fun V=>Bw wr V) Kf (Zr _ _).drew (fun _=>?_);refine tzd 0 66 ?_;refine tz 4 70 ?_;refine Zk 5 (fun K hK=>?_);go_simp;with_reducible refine HTO.o.mono ?_);rintro e w7 ⟨rfl,hb7⟩;have hb7':Bw wr w7:=(Zr _ _).drew.trans hb7;go_simp;refine hK.out _ _ hb7' (fun _=>?_);clear hK K;refine tz 6 72 ?_;refine Zd ?_;have HRX:=Zh (HRX.o.below hb7' HRX.o.lt);have HBX:=Zh (Zb HBX.o hb7');clear hb7 hb7' HSX HTO;by_cases hct:cost=tot;{have HE:=Zh (show Qkq k cap lim rows st rs cost 0 [] rs=none by rw [HJ3.o,if_pos hct]);(have e1:(cost != tot)=false:=by simp [hct]);obtain ⟨d0,d1,f0,f1⟩:=HRX.o.two;have hbw4:Bw w ((w7.setCell ⟨w.heap.size+1+1+1,0,none⟩ (.slice none 0 0)).setCell ⟨w.heap.size+1+1+1,1,none⟩ (.int .i64 0)):=(HBX.o.setCell Sn _).setCell Sn _;clear hct;(go_wp2_with fail);refine bodyPost_ret (v:=.agg #[.slice none 0 0,.int .i64 0]) (by simp [results,results23,go_sem,d0,d1]) rfl ?_;unfold ChkW WgP;exact ⟨none,HPC.o _ HE.o.symm,rfl,hbw4⟩};{have HE:=Zh (show Qkq k cap lim rows st rs cost 0 [] rs=some ((⟨#[112,108,97,110]⟩:ByteArray),0,11) by rw [HJ3.o,if_neg hct]);(have e1:(cost != tot)=true:=by simp [hct]);clear hct;(go_wp2_with fail);(with_reducible refine (Qdo _ _ _ _).mono ?_);(rintro e w8 ⟨A4,n4,m4,rfl,h4,hA4,h5,hb8⟩;have hB8:=HRX.o.below hb8 HRX.o.lt;obtain ⟨d0,d1,f0,f1⟩:=hB8.two;have hbw8:=Zb HBX.o hb8;have hfr:∀ b,Qaa A4=some b→b≠w.heap.size+1+1+1∧b<w8.heap.size:=fun b e=>⟨by have:=(hA4 b e).1;have:=HRX.o.lt;omega,(hA4 b e).2⟩);have HW:=Zh ((h4.setFar (w.heap.size+1+1+1) 0 (.slice A4 n4 m4) hfr).setFar (w.heap.size+1+1+1) 1 (.int .i64 11) (fun b e=>⟨(hfr b e).1,by simpa [World.setCell] using (hfr b e).2⟩));have hbw4:Bw w ((w8.setCell ⟨w.heap.size+1+1+1,0,none⟩ (.slice A4 n4 m4)).setCell ⟨w.heap.size+1+1+1,1,none⟩ (.int .i64 11)):=(hbw8.setCell Sn _).setCell Sn _;have HFR:=Zh (show ∀ b,Qaa A4=some b→w.heap.size≤b∧b<((w8.setCell ⟨w.heap.size+1+1+1,0,none⟩ (.slice A4 n4 m4)).setCell ⟨w.heap.size+1+1+1,1,none⟩ (.int .i64 11)).heap.size from fun b e=>⟨by have:=(hA4 b e).1;have:=HBX.o.size;omega,by simpa [World.setCell] using (hA4 b e).2⟩);clear h4 hA4 hb8 hfr;(go_wp2_with fail);refine bodyPost_ret (v:=.agg #[.slice A4 n4 m4,.int .i64 11]) (by simp [results,results23,go_sem,d0,d1]) rfl ?_;unfold ChkW WgP;exact ⟨some ((⟨#[112,108,97,110]⟩:ByteArray),0,11),HPC.o _ (Eq.symm (by first|exact HE.o|exact HJB.o.trans HE.o)),⟨_,_,_,rfl,HW.o,h5,HFR.o⟩,hbw4⟩}
      (have k1:(k:Int)+1≤n:=Oo);(have k3:(k:Int)+1<n+1:=Oo);(have k2:0≤(k:Int)+1:=Oo);(have hrp:(List.replicate n ())[k]?=some ():=by rw [List.getElem?_replicate,if_pos hlt2]);(have hsk:=HSE.o.2 (k+1) Oo;have c0:=HB.o.cellI hsk;have n1:((k:Int)+1).toNat=k+1:=Oo);by_cases hin:((k+1:Nat):Int)∈rs.flatten;{rw [if_pos hin] at c0;exact Kbk}
      · rw [if_neg hin] at c0
        have HE:=Zh (show Qte n rows rs cost k=some ((⟨#[115,116,111,112]⟩:ByteArray),(k:Int)+1,12) by
         unfold Qte;rw [Qcc hrp (c:=12) (by unfold misF;rw [if_neg hin])]
         rfl)
        clear hrp hsk hin;(go_wp2_with fail);(with_reducible refine (Qdo _ _ _ _).mono ?_);(rintro e w8 ⟨A4,n4,m4,rfl,h4,hA4,h5,hb8⟩;have hB8:=HRX.o.below hb8 HRX.o.lt;obtain ⟨d0,d1,f0,f1⟩:=hB8.two;have hbw8:=Zb HBX.o hb8;have hfr:∀ b,Qaa A4=some b→b≠w.heap.size+1+1+1∧b<w8.heap.size:=fun b e=>⟨by have:=(hA4 b e).1;have:=HRX.o.lt;omega,(hA4 b e).2⟩);have HW:=Zh ((h4.setFar (w.heap.size+1+1+1) 0 (.slice A4 n4 m4) hfr).setFar (w.heap.size+1+1+1) 1 (.int .i64 12) (fun b e=>⟨(hfr b e).1,by simpa [World.setCell] using (hfr b e).2⟩));have hbw4:Bw w ((w8.setCell ⟨w.heap.size+1+1+1,0,none⟩ (.slice A4 n4 m4)).setCell ⟨w.heap.size+1+1+1,1,none⟩ (.int .i64 12)):=(hbw8.setCell Sn _).setCell Sn _;have HFR:=Zh (show ∀ b,Qaa A4=some b→w.heap.size≤b∧b<((w8.setCell ⟨w.heap.size+1+1+1,0,none⟩ (.slice A4 n4 m4)).setCell ⟨w.heap.size+1+1+1,1,none⟩ (.int .i64 12)).heap.size from fun b e=>⟨by have:=(hA4 b e).1;have:=HBX.o.size;omega,by simpa [World.setCell] using (hA4 b e).2⟩);clear h4 hA4 hb8 hfr;(go_wp2_with fail);refine bodyPost_ret (v:=.agg #[.slice A4 n4 m4,.int .i64 12]) (by simp [results,results23,go_sem,d0,d1]) rfl ?_;unfold ChkW WgP;exact ⟨some ((⟨#[115,116,111,112]⟩:ByteArray),((k:Int)+1),12),HPC.o _ (Eq.symm (by first|exact HE.o|exact HJB.o.trans HE.o)),⟨_,_,_,rfl,HW.o,h5,HFR.o⟩,hbw4⟩
   obtain ⟨b,o,A1,n1,c1,l,hRA,hl,hc,hr1,_,_⟩:=HRW.o.2.1.at_ hlt;subst hRA;have j1:=Qan _ _ _ _ hc;have hdr:rs.drop i=l::rs.drop (i+1):=by{rw [List.drop_eq_getElem_cons (Zs hl).1,(Zs hl).2]};(have HL:=Zh hl;have HDR:=Zh hdr;have i1:(i:Int)<rn:=Oo);(have i2:0≤(i:Int):=Oo);(have hdw:Le wr wr.drew:=fun a v h=>h);have HJG:=Zh (Qyl wr.drew dep cap lim A A1 td n c n1 c1 dc tb st rows l (rs.take i).flatten sl HRW.o.1 HJK.o.ld hr1 HRW.o.2.2 HSQ.o Oo (by have:=hr1.1;have:=HSH.o l (Zm hl);omega) HB.o HSE.o);obtain ⟨jc,hjc⟩:∃ x,x=Qzt n cap lim rows st (rs.take i).flatten l:=⟨_,rfl⟩;rw [←hjc] at HJG;have HJC:=Zh hjc
   have HSX:=Zh (show ∀ V,Aft (fun b=>b≠tb) wr V→V.cell? ⟨w.heap.size+1,0,none⟩=some (.int .i64 dep)∧V.cell? ⟨w.heap.size+1,1,none⟩=some (.int .i64 cap)∧V.cell? ⟨w.heap.size+1,2,none⟩=some (.int .i64 lim)∧V.cell? ⟨w.heap.size+1,3,none⟩=some (.slice A n c)∧V.cell? ⟨w.heap.size+1+1,0,none⟩=some (.slice (some ⟨b,o,none⟩) rn rc)∧V.cell? ⟨b,o+i,none⟩=some (.slice A1 n1 c1) from fun V hV=>by
    have hJV:Blk V (w.heap.size+1) 32 #[.int .i64 dep,.int .i64 cap,.int .i64 lim,.slice A n c]:=(hV.kept _ (by have:=HB45.o;omega) HJW.o.lt).trans HJW.o;have hPV:Blk V (w.heap.size+1+1) 50 #[.slice (some ⟨b,o,none⟩) rn rc,.int .i64 cost]:=(hV.kept _ (by have:=HB45.o;omega) HPW.o.lt).trans HPW.o;obtain ⟨b0,b1,b2,b3⟩:=hJV.four;exact ⟨b0,b1,b2,b3,Zq hPV,Qan _ _ _ _ (Qaz.msk hV.kept _ _ hc)⟩)
   clear hl hc hr1 hdr hjc j1 x3;(go_wp2_with fail);(refine wp_region_held_drew (S:=fun V=>Aft (fun b=>b≠tb) wr V) Kf (Aft.bt (Zr _ _).drew HB.o.lt) (fun _=>?_);refine tzd 0 38 ?_;refine tzd 4 42 ?_;refine Zk 8 (fun K hK=>?_);go_simp;with_reducible refine HJG.o.mono ?_);unfold JdgI;rintro e w7 ⟨sl7,rfl,hb7,hs7,ha7⟩;have ha7':Aft (fun b=>b≠tb) wr w7:=(Aft.bt (Zr _ _).drew HB.o.lt).trans ha7;go_simp;refine hK.out _ _ ha7' (fun _=>?_);clear hK K;refine tz 9 11 ?_;refine Zd ?_;have HB7:=Zh hb7;have HS7:=Zh hs7;have HA7:=Zh (HA.o.trans ha7');have HRX:=Zh (show Blk w7 (w.heap.size+1+1+1) 53 #[.slice none 0 0,.int .i64 0] from (ha7'.kept _ (by have:=HB45.o;omega) HRX.o.lt).trans HRX.o);have HBX:=Zh (show Bw w w7 from HB5.o.trans (HA7.o.bel _ (fun b hb=>by have:=HB45.o;omega)));clear hb7 hs7 ha7 ha7' HJG HSX;by_cases hz:jc=0
   · subst hz
     have HNX:=Zh (show Qkq n cap lim rows st rs cost i (rs.take i).flatten (rs.drop i)=Qkq n cap lim rows st rs cost (i+1) (rs.take (i+1)).flatten (rs.drop (i+1)) by
      rw [HDR.o,Qda HL.o];unfold Qkq
      conv=>lhs;unfold chkR
      rw [if_pos HJC.o.symm])
     have HSX:=Zh (show Qtd n sl7 (rs.take (i+1)).flatten by
      rw [Qda HL.o];have h0:=HJC.o;unfold Qzt at h0
      by_cases hne:l=[]
      · rw [if_pos hne] at h0;cases h0
      rw [if_neg hne] at h0;refine HS7.o hne ?_
      cases hst:Qhd n (rs.take i).flatten l with
      | none=>rfl
      | some x=>rw [hst] at h0;exact absurd h0.symm (Qyp hst))
     (go_wp2_with fail);go_roundw;(case rel=>exact ⟨i+1,sl7,Oo,by go_num,HB7.o,HSX.o,HA7.o,by rw [←HNX.o];exact HJB.o⟩);case measure=>simp [intOf];omega
   · have e1:(jc != 0)=true:=by simp [hz]
     have HE:=Zh (show Qkq n cap lim rows st rs cost i (rs.take i).flatten (rs.drop i)=some ((⟨#[114,111,117,116,101]⟩:ByteArray),(i:Int),jc) by
      rw [HDR.o];unfold Qkq chkR;rw [if_neg (by rw [←HJC.o];exact hz),←HJC.o])
     clear hz;(go_wp2_with fail);(with_reducible refine (Qdo _ _ _ _).mono ?_);(rintro e w8 ⟨A4,n4,m4,rfl,h4,hA4,h5,hb8⟩;have hB8:=HRX.o.below hb8 HRX.o.lt;obtain ⟨d0,d1,f0,f1⟩:=hB8.two;have hbw8:=Zb HBX.o hb8;have hfr:∀ b,Qaa A4=some b→b≠w.heap.size+1+1+1∧b<w8.heap.size:=fun b e=>⟨by have:=(hA4 b e).1;have:=HRX.o.lt;omega,(hA4 b e).2⟩);have HW:=Zh ((h4.setFar (w.heap.size+1+1+1) 0 (.slice A4 n4 m4) hfr).setFar (w.heap.size+1+1+1) 1 (.int .i64 jc) (fun b e=>⟨(hfr b e).1,by simpa [World.setCell] using (hfr b e).2⟩));have hbw4:Bw w ((w8.setCell ⟨w.heap.size+1+1+1,0,none⟩ (.slice A4 n4 m4)).setCell ⟨w.heap.size+1+1+1,1,none⟩ (.int .i64 jc)):=(hbw8.setCell Sn _).setCell Sn _;have HFR:=Zh (show ∀ b,Qaa A4=some b→w.heap.size≤b∧b<((w8.setCell ⟨w.heap.size+1+1+1,0,none⟩ (.slice A4 n4 m4)).setCell ⟨w.heap.size+1+1+1,1,none⟩ (.int .i64 jc)).heap.size from fun b e=>⟨by have:=(hA4 b e).1;have:=HBX.o.size;omega,by simpa [World.setCell] using (hA4 b e).2⟩);clear h4 hA4 hb8 hfr;(go_wp2_with fail);refine bodyPost_ret (v:=.agg #[.slice A4 n4 m4,.int .i64 jc]) (by simp [results,results23,go_sem,d0,d1]) rfl ?_;unfold ChkW WgP;exact ⟨some ((⟨#[114,111,117,116,101]⟩:ByteArray),(i:Int),jc),HPC.o _ (Eq.symm (by first|exact HE.o|exact HJB.o.trans HE.o)),⟨_,_,_,rfl,HW.o,h5,HFR.o⟩,hbw4⟩
def FrR (B:Nat)(xs:List Value):Prop:=∀ A n c,Value.slice A n c∈xs→∀ g,Qaa A=some g→B≤g
theorem RwO.fresh {W:World}{B n c:Nat}{t:TypeId}{A:Oz}{xs:List Value} {ls:Lz} (h:RwO W B t A n c xs ls) (hf:FrR B xs):RdT (msk W (fun b=>B≤b)) A n ls :=
 ⟨h.2.1,fun i l hl=>by
  obtain ⟨A',n',c',h1,h2,_,h4,h5⟩:=h.2.2 i l hl;obtain ⟨b,o,e,hc⟩:=h.1.rds.2 i _ h1;refine ⟨b,o,A',n',c',e,Qat.2 ⟨(h.1.lt b (by rw [e];rfl)).1,hc⟩,⟨h2.1,fun j x hx=>?_⟩,h4,h5⟩;obtain ⟨b2,o2,e2,h6⟩:=h2.2 j x hx;exact ⟨b2,o2,e2,Qat.2 ⟨hf A' n' c' (Zm h1) b2 (by rw [e2];rfl),h6⟩⟩⟩
def FrO (W:World)(B:Nat)(xs:List Value) (ls:Lz):Prop :=
 (∀ (j:Nat) A n c,xs[j]?=some (.slice A n c)→∃ l,ls[j]?=some l∧Own W B 3 1 A n c (Qae l)) ∧
 ∀ (i j:Nat) A n c A' n' c',i<j→xs[i]?=some (.slice A n c)→xs[j]?=some (.slice A' n' c')→∀ g,Qaa A=some g→Qaa A'≠some g
theorem FrO.fr {W:World}{B:Nat}{xs:List Value} {ls:Lz} (h:FrO W B xs ls):FrR B xs:=fun A n c hm g hg=>by obtain ⟨j,hj⟩:=Yr hm;obtain ⟨l,_,h2⟩:=h.1 j A n c hj;exact (h2.lt g hg).1
theorem FrO.below {W W':World}{B:Nat}{xs:List Value} {ls:Lz} (h:FrO W B xs ls) (hb:Bw W W'):FrO W' B xs ls :=
 ⟨fun j A n c hj=>by
  obtain ⟨l,h1,h2⟩:=h.1 j A n c hj;exact ⟨l,h1,h2.below hb⟩,h.2⟩
theorem FrO.push {W W':World}{B m d n c:Nat}{xs:List Value} {ls:Lz} {l:Iz} {R A:Oz} {t:TypeId} (h:FrO W B xs ls) (hr:RwO W B t A n c xs ls) (hg:W.grownBy W' (Qaa A)) (ho:Own W B 3 1 R m d (Qae l)) (hR:∀ g,Qaa R=some g→Qaa A≠some g) (hn:∀ (j:Nat) A' n' c',xs[j]?=some (.slice A' n' c')→∀ g,Qaa A'=some g→Qaa R≠some g):FrO W' B (xs ++[.slice R m d]) (ls ++[l]):=by
 have hxl:xs.length=ls.length:=by rw [hr.1.1,hr.2.1];omega
 have far:∀ (A':Oz),(∀ g,Qaa A'=some g→Qaa A≠some g)→Qaa A'=none∨Qaa A'≠Qaa A:=fun A' h=>by
  cases e:Qaa A' with
  | none=>exact .inl rfl
  | some g=>exact .inr (fun e2=>h g e e2.symm)
 constructor;{intro j A' n' c' hj;(rcases Nat.lt_trichotomy j xs.length with h1|h1|h1);{rw [Yc h1] at hj;obtain ⟨l',h2,h3⟩:=h.1 j A' n' c' hj;obtain ⟨A2,n2,c2,k1,_,k3,_⟩:=hr.2.2 j l' h2;rw [hj] at k1;cases k1;exact ⟨l',by rw [Yc Oo];exact h2,h3.far hg (far _ (fun g e=>(k3 g e).2))⟩};{subst h1;rw [Yb (Zn _),Yy] at hj;cases hj;exact ⟨l,by rw [hxl,Yb (Zn _),Yy];rfl,ho.far hg (far _ hR)⟩};{rw [Yd (by simp;omega)] at hj;cases hj}};{intro i j A1 n1 c1 A' n' c' hij hi hj;(have hjl:j<xs.length+1:=by have:=(Zs hj).1;simpa using this);rw [Yc Oo] at hi;(by_cases h1:j<xs.length);{rw [Yc h1] at hj;exact h.2 i j A1 n1 c1 A' n' c' hij hi hj};{(obtain rfl:j=xs.length:=Oo);rw [Yb (Zn _),Yy] at hj;cases hj;exact hn i A1 n1 c1 hi}}
def CpyP (w:World)(m:Nat) (rs:Lz) (e:Ending) (w':World):Prop:=(∃ A c xs,e=.returned (.slice A m c)∧RwO w' w.heap.size 64 A m c xs rs∧FrO w' w.heap.size xs rs)∧Bw w w'
theorem Qyg (R:Oz)(m d:Nat) (rs:Lz) (w:World) (hr:RdT w R m rs) (hm:m≤1000000) (hs:∀ r∈rs,r.length≤1000000) :
 Calls prog 27 #[.slice R m d] w (CpyP w m rs):=by
 have HR:=Zh hr;have HRL:=Zh hr.1;have HS:=Zh hs;clear hr hs;go_enter func27,ntmps27
 go_wp2_with fail
 go_loopw [3,4] (fun z q W=>∃ (i:Nat) (A3:Oz) (c3:Nat) (xs:List Value),i≤m∧q=.int .i64 i∧z=.slice A3 i c3∧RwO W w.heap.size 64 A3 i c3 xs (rs.take i)∧FrO W w.heap.size xs (rs.take i)∧Bw w W) (fun _ q _=>m-(intOf q).toNat)
 case atStart=>exact ⟨0,none,0,[],Nat.zero_le _,rfl,rfl,RwO.nil _ _ _,⟨fun _ _ _ _ h=>by simp at h,fun _ _ _ _ _ _ _ _ _ h=>by simp at h⟩,Zr _ _⟩
 case round =>
  obtain ⟨i,A3,c3,xs,hi,rfl,rfl,hrw,hfr,hbl⟩:=hrel;have HRW:=Zh hrw;have HFR:=Zh hfr;have HBL:=Zh hbl;clear hrw hfr hbl;by_cases hlt:i<m
  rotate_left;{(obtain rfl:i=m:=Oo);(have i1:¬(i:Int)<i:=Oo);(go_wp2_with fail);go_ret;have h:=HRW.o;rw [Ye (by rw [HRL.o];exact Zn _)] at h;have h2:=HFR.o;rw [Ye (by rw [HRL.o];exact Zn _)] at h2;exact ⟨⟨A3,c3,xs,rfl,h,h2⟩,HBL.o⟩};obtain ⟨b,o,A1,n1,c1,l,rfl,hl,hc,hr1,_,_⟩:=HR.o.at_ hlt;have HL:=Zh hl;have hn1:n1≤1000000:=by have:=hr1.1;have:=HS.o l (Zm hl);omega
  have j1:=Zc HBL.o (Zn _) hc;have jl:=Qaj j1;simp only at jl;have i1:(i:Int)<m:=Oo
  have i2:0≤(i:Int):=Oo
  obtain ⟨W2,hW2⟩:=Zx (wr.alloc (.cells #[] 3));have hb2:Bw wr W2:=by rw [hW2];exact Qag
  have hown:Own W2 wr.heap.size 3 1 (some ⟨wr.heap.size,0,none⟩) 0 0 []:=by rw [hW2];exact lit0 (Zn _)
  have hrd:Rds W2 1 A1 n1 (Qae l):=(hr1.below (Zb HBL.o hb2)).rdsI;have hsz:wr.heap.size≤W2.heap.size:=hb2.size;have HW2:=Zh hW2;have HB2:=Zh hb2;clear hW2 hb2 hl hc hr1;go_wp2_with (at_builtin;rw [←HW2.o];with_reducible refine Qam rfl (.tmp 12) (.tmp 16) 64 rfl 3 _ 1 8 Qbm underlying64 rfl Oo rfl rfl hown hrd (Qaq _) Oo Oo hsz ?_)
  intro A5 c5 wb hob hgb _;have hbb:Bw wr wb:=Zo HB2.o hgb hown hsz;have ho5:Own wb wr.heap.size 3 1 A5 n1 c5 (Qae l):=by simpa using hob
  obtain ⟨W3,hW3⟩:=Zx (wb.alloc (.cells #[.slice A5 n1 c5] 64));have hb3:Bw wb W3:=by rw [hW3];exact Qag
  have hrd3:Rds W3 1 (some ⟨wb.heap.size,0,none⟩) 1 [.slice A5 n1 c5]:=by rw [hW3];exact (Blk.new wb 64 #[.slice A5 n1 c5]).rds rfl
  have hbw:=Zb hbb hb3;have hr3:=HRW.o.below hbw;have hown3:=hr3.1;have hsz3:w.heap.size≤W3.heap.size:=Yx HBL.o.size hbw.size;have hO3:=ho5.below hb3;have HW3:=Zh hW3;have HB3:=Zh (Zb HBL.o hbw);clear hown hrd hob hgb hbb hsz hb3 hW3 HW2 j1;go_wp2_with (at_builtin;rw [←HW3.o];with_reducible refine Qam rfl (.tmp 11) (.tmp 18) 27 rfl 64 _ 1 24 Qhj underlying27 rfl Oo rfl rfl hown3 hrd3 (Qch _ _ _) Oo Oo hsz3 ?_)
  intro A6 c6 w8 ho8 hg8 hat8;have hb8:=Zo HB3.o hg8 hown3 hsz3
  have HR8:=Zh (show RwO w8 w.heap.size 64 A6 (i+1) c6 (xs ++[.slice A5 n1 c5]) (rs.take (i+1)) by
   rw [List.take_add_one,HL.o]
   exact hr3.push ho8 hg8 hat8 hO3.rds.rdI (fun g e=>by
    have h1:=hO3.lt g e;exact ⟨h1.2,fun e2=>by have:=HRW.o.1.lt g e2;omega⟩) hO3.cap hO3.capMax)
  have hf3:=HFR.o.below hbw
  have HF8:=Zh (show FrO w8 w.heap.size (xs ++[.slice A5 n1 c5]) (rs.take (i+1)) by
   rw [List.take_add_one,HL.o];refine hf3.push hr3 hg8 (hO3.mono HBL.o.size) (fun g e e2=>by have:=(hO3.lt g e).1;have:=HRW.o.1.lt g e2;omega) (fun j A' n' c' hj g e e2=>?_);have h1:=(hO3.lt g e2).1;obtain ⟨l',h2,_⟩:=HFR.o.1 j A' n' c' hj;obtain ⟨A2,n2,c2,k1,_,k3,_⟩:=HRW.o.2.2 j l' h2;rw [hj] at k1
   cases k1
   have:=(k3 g e).1;omega)
  have HB8:=Zh hb8;clear hbw hf3 hr3 hown3 hrd3 hsz3 ho8 hg8 hat8 hb8 hO3 ho5 HW3;go_wp2_with fail
  go_roundw;case rel=>exact ⟨i+1,A6,c6,_,Oo,by go_num,rfl,HR8.o,HF8.o,HB8.o⟩
  case measure=>simp [intOf];omega
theorem Rcm (R:Oz)(m d:Nat)(cost:Int) (rs:Lz) (w:World) (hr:RdT w R m rs) (hm:m≤1000000) (hs:∀ r∈rs,r.length≤1000000) :
 Calls prog 22 #[.agg #[.slice R m d,.int .i64 cost]] w fun e w'=>(∃ A c,e=.returned (.agg #[.slice A m c,.int .i64 cost])∧RdT w' A m rs)∧Bw w w':=by
 have HCP:=Zh (fun V (hV:Bw w V)=>Qyg R m d rs V (hr.below hV) hm hs);clear hr hs;go_enter func22,ntmps22
 go_wp2_with fail
 (refine Qai ?_;intro w1 hw1);have HB1:=Zh (show Bw w w1 by rw [hw1];exact Qag);have HX1:=Zh (show Blk w1 w.heap.size 50 #[.slice R m d,.int .i64 cost] by rw [hw1];exact Qbi);have HR1:=Zh (show Blk w1 (w.heap.size+1) 45 #[.slice none 0 0,.int .i64 0] by rw [hw1];exact Qbi);clear hw1;have HSX:=Zh (show ∀ V,Below (w.heap.size+1) w1 V→V.cell? ⟨w.heap.size,0,none⟩=some (.slice R m d)∧V.cell? ⟨w.heap.size,1,none⟩=some (.int .i64 cost) from fun V hV=>⟨by rw [(HX1.o.below hV (Nat.lt_succ_self _)).cell];rfl,by rw [(HX1.o.below hV (Nat.lt_succ_self _)).cell];rfl⟩);refine wp_region_held_drew (S:=fun V=>Below (w.heap.size+1) w1 V) Kf (Zr _ _).drew (fun _=>?_);refine tzb 0 3 ?_;refine tzb 3 6 ?_;refine Zk 2 (fun K hK=>?_);go_simp;with_reducible refine (HCP.o _ HB1.o.drew).mono ?_
 unfold CpyP;rintro e w2 ⟨⟨A2,c2,xs,rfl,hrw,hfr⟩,hb2⟩;have hb2':Bw w1 w2:=(Zr _ _).drew.trans hb2;have hb3:Below (w.heap.size+1) w1 w2:=hb2'.mono (Nat.le_of_lt HR1.o.lt);have hsz:w1.heap.size≤w2.heap.size:=hb2'.size;have HRT:=Zh (hrw.fresh hfr.fr);have hR2:=HR1.o.below hb2' HR1.o.lt;have hR1l:=HR1.o.lt;have HBW:=Zh (Zb HB1.o hb2');go_simp;refine hK.out _ _ hb3 (fun _=>?_);clear hK K hrw hfr hb2 hb2';refine tz 5 8 ?_;obtain ⟨d0,d1,f0,f1⟩:=hR2.two;refine Zk 6 (fun K hK=>?_);go_simp;refine hK.out _ _ ((hb3.setCell Sn _).setCell Sn _) (fun _=>?_);clear hK K;refine Zd ?_;have hR4:=(hR2.set_ 0 (.slice A2 m c2)).set_ 1 (.int .i64 cost)
 have HRT4:=Zh (show RdT ((w2.setCell ⟨w.heap.size+1,0,none⟩ (.slice A2 m c2)).setCell ⟨w.heap.size+1,1,none⟩ (.int .i64 cost)) A2 m rs from
  (HRT.o.le (Qaz.msk (W':=(w2.setCell ⟨w.heap.size+1,0,none⟩ (.slice A2 m c2)).setCell ⟨w.heap.size+1,1,none⟩ (.int .i64 cost)) ((Qaz.set _ _ _ _ (fun (h:w1.drew.heap.size≤w.heap.size+1)=>by have:w1.drew.heap.size=w1.heap.size:=rfl;omega)).trans (Qaz.set _ _ _ _ (fun (h:w1.drew.heap.size≤w.heap.size+1)=>by have:w1.drew.heap.size=w1.heap.size:=rfl;omega)) (by simp [World.setCell])))).le (Qan _ _))
 have hbf:Bw w ((w2.setCell ⟨w.heap.size+1,0,none⟩ (.slice A2 m c2)).setCell ⟨w.heap.size+1,1,none⟩ (.int .i64 cost)):=(HBW.o.setCell Sn _).setCell Sn _;have q0:((w2.setCell ⟨w.heap.size+1,0,none⟩ (.slice A2 m c2)).setCell ⟨w.heap.size+1,1,none⟩ (.int .i64 cost)).cell? ⟨w.heap.size+1,0,none⟩=some (.slice A2 m c2):=Zq hR4;have q1:((w2.setCell ⟨w.heap.size+1,0,none⟩ (.slice A2 m c2)).setCell ⟨w.heap.size+1,1,none⟩ (.int .i64 cost)).cell? ⟨w.heap.size+1,1,none⟩=some (.int .i64 cost):=Zq hR4;clear hR4 hR2 d0 d1 f0 f1 HSX;go_wp2_with fail
 refine bodyPost_ret (v:=.agg #[.slice A2 m c2,.int .i64 cost]) (by simp [results,results22,go_sem,q0,q1]) rfl ?_;exact ⟨⟨A2,c2,rfl,HRT4.o⟩,hbf⟩
open Go.Extern Go.Extern.Stop Go.Stop
def ErV (w:World) (b:Option (ByteArray×Int×Int)) (v:Value):Prop:=match b with|none=>v=.nilIface|some (p,k,c)=>Qci w v [(p,k)] c
def WgV (w:World) (b:Option (ByteArray×Int×Int)) (x:Value):Prop:=match b with|none=>x=.agg #[.slice none 0 0,.int .i64 0]|some (p,k,c)=>∃ A n m,x=.agg #[.slice A n m,.int .i64 c]∧RdW w A n [(p,k)]∧n≤1000000
def NzB (b:Option (ByteArray×Int×Int)):Prop:=∀ p k c,b=some (p,k,c)→c≠0
section
variable {w w':World} {b:Option (ByteArray×Int×Int)} {e:Ending} {v x:Value}
theorem ErP.val (h:ErP w b e w'):(∃ v,e=.returned v∧ErV w' b v)∧Bw w w':=by
 match b,h with
 | none,⟨h1,h2⟩=>exact ⟨⟨_,h1,rfl⟩,h2⟩
 | some (p,k,c),⟨⟨v,h1,h3⟩,h2⟩=>exact ⟨⟨v,h1,h3⟩,h2⟩
theorem WgP.val (h:WgP w b e w'):(∃ x,e=.returned x∧WgV w' b x)∧Bw w w':=by
 match b,h with
 | none,⟨h1,h2⟩=>exact ⟨⟨_,h1,rfl⟩,h2⟩
 | some (p,k,c),⟨⟨A,n,m,h1,h3,h4,_⟩,h2⟩=>exact ⟨⟨_,h1,A,n,m,rfl,h3,h4⟩,h2⟩
theorem ErV.below (h:ErV w b v)(hb:Bw w w'):ErV w' b v:=by
 match b,h with
 | none,h=>exact h
 | some (p,k,c),h=>exact Qci.below hb h
end
theorem tells_b {w:World} {b:Option (ByteArray×Int×Int)} {v x:Value} (hv:ErV w b v) (hx:WgV w b x) (hc:NzB b) (hg:w.cell? ⟨0,0,none⟩=some Qpm) :
 Calls prog 17 #[v,x] w fun e w'=>e=.returned (.bool true)∧Bw w w':=by
 match b,hv,hx,hc with
 | none,hv,hx,_ =>obtain rfl:=hv;obtain rfl:=hx;exact Ric none 0 0 w
 | some (p,k,c),hv,⟨A,n,m,h1,h2,h3⟩,hc =>subst h1;exact Qvw v A n m [(p,k)] c w hv h2 (hc p k c rfl) hg Oo
theorem Rex {P:Iz}:∀ k p c,misF P k p=some c→c≠0:=fun k p c h=>by
 unfold misF at h;split at h
 {cases h};{cases h;decide}
theorem chkR_c {N:Nat}{cap lim:Int} {ls:Lz} {st:Pz} {p:ByteArray} {k c:Int}:∀ {l:Lz} {i:Nat} {P:Iz},chkR N cap lim ls st i P l=some (p,k,c)→c≠0
 | [],_,_,h=>by cases h
 | r::t,i,P,h=>by
  unfold chkR at h;split at h
  {exact chkR_c h};{rename_i hz;cases h;exact hz}
theorem plC_c {N:Qak}{dep cap lim cost:Int}{n:Nat} {st:Pz} {rs:Lz} {b:Option (ByteArray×Int×Int)} (h:PlC N dep cap lim n st rs cost b):NzB b:=fun p k c hb=>by
 subst hb;rcases h with ⟨x,h1,h2⟩|⟨_,d,_,h2⟩
 {cases h2;exact Qsa h1}
 · unfold Qkq at h2
   cases hr:chkR n cap lim d st 0 [] rs with
   | some x =>rw [hr] at h2;cases h2;exact chkR_c hr
   | none =>
    rw [hr] at h2;simp only at h2;unfold Qte at h2
    cases hf:Qha (misF rs.flatten) 0 ((List.replicate n ()).drop 0) with
    | some x =>rw [hf] at h2;obtain ⟨i,c'⟩:=x;cases h2;exact Rfd Rex hf
    | none =>rw [hf] at h2;simp only at h2;(split at h2);{cases h2};{cases h2;decide}
theorem Qok (A B C:Oz)(n m k c d e:Nat)(N:Qak)(dep cap lim:Int)(JA:Oz)(jn jc:Nat) (st:Pz) (RA:Oz) (rn rc:Nat) (rs:Lz) (cost:Int) (w:World) (h:Qcp w A B C n m k N) (hk:k≤9223372036854775807) (hj:RdP w JA jn st) (hr:RdT w RA rn rs) (hg:w.cell? ⟨0,0,none⟩=some Qpm) :
 Calls prog 4 #[.agg #[.slice A n c,.slice B m d,.slice C k e],Qia dep cap lim JA jn jc,.agg #[.slice RA rn rc,.int .i64 cost]] w fun r w'=>r=.returned (.bool true)∧Bw w w':=by
 have HJ:=Zh hj;have HR:=Zh hr;have HRL:=Zh hr.1;have HH:=Zh h;have HG:=Zh hg;clear h hj hr hg;go_enter func4,ntmps4
 go_wp2_with fail
 (refine Qab ?_;intro w1 hw1);have hb1:Bw w w1:=by rw [hw1];exact Qag
 have hX:Blk w1 w.heap.size 26 #[.slice A n c,.slice B m d,.slice C k e]:=by rw [hw1];exact Qbi
 have hJ:Blk w1 (w.heap.size+1) 32 #[.int .i64 dep,.int .i64 cap,.int .i64 lim,.slice JA jn jc]:=by rw [hw1];exact Qbi
 have hP:Blk w1 (w.heap.size+1+1) 50 #[.slice RA rn rc,.int .i64 cost]:=by rw [hw1];exact Qbi
 clear hw1;with_reducible refine (Qib w1 (Zc hb1 (Zn _) HG.o)).mono ?_
 rintro r w2 ⟨rfl,hb2⟩;have hX2:=hX.below hb2 hX.lt;have hJ2:=hJ.below hb2 hJ.lt;have hP2:=hP.below hb2 hP.lt;have hb2':=Zb hb1 hb2;clear hX hJ hP hb1 hb2;obtain ⟨x0,x1,x2⟩:=hX2.three;go_wp2_with fail
 with_reducible refine (Qox A B C n m k c d e N w2 (HH.o.below hb2') hk).mono ?_
 rintro r w3 ⟨hr,hb3⟩;have HB3:=Zh (Zb hb2' hb3);have HX3:=Zh (hX2.below hb3 hX2.lt);have HJ3:=Zh (hJ2.below hb3 hJ2.lt);have HP3:=Zh (hP2.below hb3 hP2.lt);clear x0 x1 x2 hX2 hJ2 hP2 hb2' hb3;obtain ⟨b,rfl,hGG⟩:=hr;have j3:w3.cell? ⟨w.heap.size+1,3,none⟩=some (.slice JA jn jc):=Zq HJ3.o;have p0:w3.cell? ⟨w.heap.size+1+1,0,none⟩=some (.slice RA rn rc):=Zq HP3.o
 cases b with
 | false =>
  clear hGG;go_wp2_with fail
  go_ret;exact ⟨rfl,HB3.o⟩
 | true =>
 have HOK:=Zh (hGG rfl).ok;clear hGG;by_cases h40:40<jn
 {(have i40:40<(jn:Int):=Oo);exact Kcr};have i40:¬40<(jn:Int):=Oo
 by_cases h41:40<rn
 {(have i41:40<(rn:Int):=Oo);exact Kcr};have i41:¬40<(rn:Int):=Oo
 go_wp2_with fail
 clear i40 i41 j3;go_loopw [6,7] (fun z q W=>z=.bool false∧w3=W∧∃ i:Nat,i≤rn∧q=.int .i64 i∧∀ (j:Nat) r,j<i→rs[j]?=some r→r.length≤40) (fun _ q _=>rn-(intOf q).toNat)
 case atStart=>exact ⟨rfl,rfl,0,Nat.zero_le _,rfl,fun j r h=>by omega⟩
 case round =>
  obtain ⟨rfl,rfl,i,hi,rfl,hall⟩:=hrel;have HALL:=Zh hall;clear hall;by_cases hlt:i<rn
  · obtain ⟨b,o,A1,n1,c1,l,hRA,hl,hc,hr1,_,_⟩:=HR.o.at_ hlt;(subst hRA;have j1:=Zc HB3.o (Zn _) hc;have HL:=Zh hl;have HN1:=Zh hr1.1;have i1:(i:Int)<rn:=Oo);(have i2:0≤(i:Int):=Oo);clear hl hc hr1;(by_cases h4:40<n1);{(have i4:40<(n1:Int):=Oo);exact Kcr};have i4:¬40<(n1:Int):=Oo
    have HA2:=Zh (show ∀ (j:Nat) r,j<i+1→rs[j]?=some r→r.length≤40 from fun j r hj h=>by
     by_cases e:j<i
     · exact HALL.o j r e h
     · obtain rfl:j=i:=by omega
       rw [HL.o] at h
       cases h
       have:=HN1.o;omega)
    (go_wp2_with fail);go_roundw;(case rel=>exact ⟨rfl,by trivial,i+1,Oo,by go_num,HA2.o⟩);case measure=>simp [intOf];omega
  obtain rfl:i=rn:=Oo
  have i1:¬(i:Int)<i:=Oo
  have HSH:=Zh (show ∀ r∈rs,r.length≤1000000 from fun r hr=>by
   obtain ⟨j,hj⟩:=Yr hr;have:=HALL.o j r (by have:=(Zs hj).1;have:=HRL.o;omega) hj;omega)
  obtain ⟨x0,x1,x2⟩:=HX3.o.three;clear HALL;go_wp2_with fail
  with_reducible refine (Qms A B C n m k c d e N w3 (HH.o.below HB3.o) HOK.o).mono ?_
  rintro r w4 ⟨g,rfl,hG4,hb4⟩;have HG4:=Zh hG4.rd;have HX4:=Zh (HX3.o.below hb4 HX3.o.lt);have HJ4:=Zh (HJ3.o.below hb4 HJ3.o.lt);have HP4:=Zh (HP3.o.below hb4 HP3.o.lt);have HB4:=Zh (Zb HB3.o hb4);clear x0 x1 x2 hb4 hG4 p0
  have HSX:=Zh (show ∀ V,Bw w4 V→V.cell? ⟨w.heap.size,0,none⟩=some (.slice A n c)∧V.cell? ⟨w.heap.size,1,none⟩=some (.slice B m d)∧V.cell? ⟨w.heap.size,2,none⟩=some (.slice C k e)∧V.cell? ⟨w.heap.size+1,0,none⟩=some (.int .i64 dep)∧V.cell? ⟨w.heap.size+1,1,none⟩=some (.int .i64 cap)∧V.cell? ⟨w.heap.size+1,2,none⟩=some (.int .i64 lim)∧V.cell? ⟨w.heap.size+1,3,none⟩=some (.slice JA jn jc)∧V.cell? ⟨w.heap.size+1+1,0,none⟩=some (.slice RA i rc)∧V.cell? ⟨w.heap.size+1+1,1,none⟩=some (.int .i64 cost) from fun V hV=>by
   obtain ⟨a0,a1,a2⟩:=(HX4.o.below hV HX4.o.lt).three;obtain ⟨b0,b1,b2,b3⟩:=(HJ4.o.below hV HJ4.o.lt).four;obtain ⟨c0,c1,_⟩:=(HP4.o.below hV HP4.o.lt).two;exact ⟨a0,a1,a2,b0,b1,b2,b3,c0,c1⟩)
  clear HX3 HJ3 HP3 HX4 HJ4 HP4;go_wp2_with fail
  refine wp_region_held_drew (S:=fun V=>Bw w4 V) Kf (Zr _ _).drew (fun _=>?_);refine tzd 0 42 ?_;refine tz 4 46 ?_;refine tz 6 48 ?_;refine tzb 9 51 ?_;refine tz 11 53 ?_;refine Zk 5 (fun K hK=>?_);go_simp;with_reducible refine (Raq dep cap lim JA jn jc st _ (HJ.o.below (Zb HB4.o (Zr _ _).drew)) Oo).mono ?_
  rintro r w5 ⟨A',c',rfl,hst,hb5⟩;have HB5:=Zh (show Bw w4 w5 from (Zr _ _).drew.trans hb5);have HST:=Zh hst;go_simp;refine hK.out _ _ HB5.o (fun _=>?_);clear hK K hst hb5;refine Zk 7 (fun K hK=>?_);go_simp;with_reducible refine (Rcm RA i rc cost rs w5 (HR.o.below (Zb HB4.o HB5.o)) Oo HSH.o).mono ?_
  rintro r w6 ⟨⟨A2,c2,rfl,hrt⟩,hb6⟩;have HB6:=Zh (Zb HB5.o hb6);have HST6:=Zh (HST.o.below hb6);have HRT:=Zh hrt;go_simp;refine hK.out _ _ HB6.o (fun _=>?_);clear hK K hrt hb6 HST HB5;refine Zk 8 (fun K hK=>?_);go_simp;with_reducible refine (Qma w6 g N dep cap lim A' jn c' st A2 i c2 rs cost (HG4.o.below HB6.o) HOK.o HST6.o Oo HRT.o Oo HSH.o).mono ?_
  unfold ChkP;rintro r w7 ⟨b,hpb,hm⟩;obtain ⟨⟨v,rfl,hv⟩,hb7⟩:=hm.val;have HB7:=Zh (Zb HB6.o hb7);have HV:=Zh hv;have HPB:=Zh hpb;go_simp;refine hK.out _ _ HB7.o (fun _=>?_);clear hK K hm hv hb7 hpb HST6 HRT HB6;refine Zk 12 (fun K hK=>?_);go_simp;with_reducible refine (Qoq w7 A B C n m k c d e N dep cap lim JA jn jc st RA i rc rs cost (HH.o.below (Zb HB4.o HB7.o)) HOK.o (HJ.o.below (Zb HB4.o HB7.o)) Oo (HR.o.below (Zb HB4.o HB7.o)) Oo HSH.o).mono ?_
  unfold ChkW;rintro r w8 ⟨b2,hpb2,hm⟩;obtain rfl:=hpb2.uniq HPB.o;obtain ⟨⟨x,rfl,hx⟩,hb8⟩:=hm.val;have HB8:=Zh (Zb HB7.o hb8);have HTE:=Zh (tells_b (HV.o.below hb8) hx (plC_c HPB.o) (Zc (Zb HB4.o HB8.o) (Zn _) HG.o));go_simp;refine hK.out _ _ HB8.o (fun _=>?_);clear hK K hm hx hb8 hpb2 HV HB7;refine Zk 13 (fun K hK=>?_);go_simp;with_reducible refine HTE.o.mono ?_
  rintro r w9 ⟨rfl,hb9⟩;have HB9:=Zh (Zb HB8.o hb9);go_simp;refine hK.out _ _ HB9.o (fun _=>?_);clear hK K hb9 HTE;refine tz 14 56 ?_;refine tz 15 6 ?_;refine Zd ?_;clear HSX;go_wp2_with fail
  go_ret;exact ⟨rfl,Zb HB4.o HB9.o⟩
