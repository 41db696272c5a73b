/- For every input PlanFails returns true, and its arguments read afterwards as before; package errors' variable errorType tied to the program's text. No condition. -/
/- Qbl of the proof: LwF, LwFP. -/
import Derived.Test.YtkaaakbejnlbgaaGreatDoorE32
import Derived.Test.YtkaaakbejnlbgaaGreatDoorE33
import Derived.Test.YtkaaakbejnlbgaaGreatDoorE34
import Derived.Test.YtkaaakbejnlbgaaGreatDoorE35
set_option maxHeartbeats 4000000
set_option maxRecDepth 100000
namespace Go.Proofs.YtkaaakbejnlbgaaGreatDoor
open Go.RowKit Go.Extern.Stop Go.Stop Go.Extern Go.Proofs.Tryz
attribute [local go_sem ↓] Go.wp_at_zero Go.wp_at_succ
theorem Qrp {cap lim:Int} {ls:Lz} {k:Nat} {p:Int×Int}:Qpu cap lim ls k p=none↔¬cap<p.2∧Qio (Qas ls 0 k) (Qas ls k 0)≠1152921504606846976∧¬Qio (Qas ls 0 k) (Qas ls k 0) > lim:=by have h1:Qas ls 0 k ≥ 1152921504606846976∨Qas ls k 0 ≥ 1152921504606846976→Qio (Qas ls 0 k) (Qas ls k 0)=1152921504606846976:=fun h=>by{unfold Qio held INF;rcases h with h|h <;> (split <;> split <;> (try split) <;> (try split) <;> (try split) <;> (try split) <;> omega)};have h2:=Qwm (Qas ls 0 k) (Qas ls k 0);unfold INF at h2;unfold Qpu;split;{simp;omega};split;{rename_i h;have:=h1 h;simp;omega};split;{simp;omega};{simp;omega}
theorem Qpx (A B C Q:Oz)(n m k c d e L cq:Nat)(N:Qak) (ls:Lz) (dep cap lim:Int) (JA:Oz) (jn jc:Nat) (st:Pz) (w:World) (h:Qcp w A B C n m k N) (hk:k≤9223372036854775807) (hq:RdT w Q L ls) (hL:L≤9223372036854775807) (hj:RdP w JA jn st) (hg:w.cell? ⟨0,0,none⟩=some Qpm) :
 Calls prog 8 #[.agg #[.slice A n c,.slice B m d,.slice C k e],.agg #[.slice Q L cq],Qia dep cap lim JA jn jc] w fun r w'=>r=.returned (.bool true)∧Bw w w':=by
 have HH:=Zh h;have HT:=Zh hq;have HJ:=Zh hj;have HG:=Zh hg;have HNA:=Zh (show N.ar.length=m from h.2.1.1);have HNV:=Zh (show N.vs.length=n from h.1.1);clear h hq hj hg;go_enter func8,ntmps8
 go_wp2_with fail
 (refine Qab ?_;intro w1 hw1);have hb1:Bw w w1:=by rw [hw1];exact Qag
 have hX:Blk w1 w.heap.size 26 #[.slice A n c,.slice B m d,.slice C k e]:=by rw [hw1];exact Qbi
 have hY:Blk w1 (w.heap.size+1) 29 #[.slice Q L cq]:=by rw [hw1];exact Qbi
 have hJ:Blk w1 (w.heap.size+1+1) 32 #[.int .i64 dep,.int .i64 cap,.int .i64 lim,.slice JA jn jc]:=by rw [hw1];exact Qbi
 clear hw1;with_reducible refine (Qib w1 (Zc hb1 (Zn _) HG.o)).mono ?_
 rintro r w2 ⟨rfl,hb2⟩;have hX2:=hX.below hb2 hX.lt;have hY2:=hY.below hb2 hY.lt;have hJ2:=hJ.below hb2 hJ.lt;have hb2':=Zb hb1 hb2;clear hX hY hJ hb1 hb2;obtain ⟨x0,x1,x2⟩:=hX2.three;have y0:=hY2.cell 0;simp only [Yo,Yn] at y0;go_wp2_with fail
 with_reducible refine (Quw A B C Q n m k c d e L cq N ls w2 (HH.o.below hb2') hk (HT.o.below hb2') hL).mono ?_
 rintro r w3 ⟨hr,hb3⟩;have HB3:=Zh (Zb hb2' hb3);have HX3:=Zh (hX2.below hb3 hX2.lt);have HY3:=Zh (hY2.below hb3 hY2.lt);have HJ3:=Zh (hJ2.below hb3 hJ2.lt);clear x0 x1 x2 y0 hX2 hY2 hJ2 hb2' hb3;obtain ⟨b,rfl,hGG⟩:=hr
 cases b with
 | false =>
  clear hGG;go_wp2_with fail
  go_ret;exact ⟨rfl,HB3.o⟩
 | true =>
 have HMAY:=Zh (hGG rfl);have hok:=(hGG rfl).small.ok;clear hGG;have j3:w3.cell? ⟨w.heap.size+1+1,3,none⟩=some (.slice JA jn jc):=Zq HJ3.o;obtain ⟨j0,j1,j2,_⟩:=HJ3.o.four;obtain ⟨x0,x1,x2⟩:=HX3.o.three;by_cases h6:6<jn
 {(have i6:6<(jn:Int):=Oo);exact Kcr};have i6:¬6<(jn:Int):=Oo
 go_wp2_with fail
 with_reducible refine (Qhn m dep cap lim JA jn jc st w3 (HJ.o.below HB3.o) Oo).mono ?_
 rintro r w3' ⟨hm,hb3⟩;have HB3:=Zh (Zb HB3.o hb3);have HX3:=Zh (HX3.o.below hb3 HX3.o.lt);have HY3:=Zh (HY3.o.below hb3 HY3.o.lt);have HJ3:=Zh (HJ3.o.below hb3 HJ3.o.lt);clear x0 x1 x2 j0 j1 j2 j3 hb3
 cases hjb:Qbf m dep cap lim st with
 | some x =>
  obtain ⟨px,kx,cx⟩:=x;rw [hjb] at hm;obtain ⟨A4,n4,m4,rfl,_,_⟩:=hm;have hcx:=Qsa hjb;have hfe:=Qmo A4 n4 m4 cx w3';have i8:(cx != 0)=true:=by simpa using hcx
  clear hjb;go_wp2_with fail
  go_ret;exact ⟨Qao Sm,HB3.o⟩
 | none =>
 rw [hjb] at hm;obtain rfl:=hm;have hfe:=Qmo none 0 0 0 w3';have HJN:=Zh (show Qbf N.ar.length dep cap lim st=none by rw [HNA.o];exact hjb);have HJK:=Zh (Qex hjb);clear hjb;obtain ⟨x0,x1,x2⟩:=HX3.o.three;have y0:=HY3.o.cell 0;simp only [Yo,Yn] at y0;go_wp2_with fail
 with_reducible refine (Qmy A B C Q n m k c d e L cq N ls w3' (HH.o.below HB3.o) hok (HT.o.below HB3.o) HMAY.o.part (Qkl HMAY.o)).mono ?_
 unfold Qqb;rintro r w5 ⟨⟨g,o,CB,NC,cl,F,rfl,hNC,hG5,hF5,hO5,hC5,hA5⟩,hb5⟩;have HNC:=Zh hNC;have HNL:=Zh (show NC≤1000000000 by rw [hNC];exact Qkl HMAY.o);have HG5:=Zh hG5.rd;have HO5:=Zh (hO5.le (Qan _ _));have HC5:=Zh (show RdI w5 (some ⟨CB,0,none⟩) NC cl from ⟨hC5.1,fun i x hx=>by obtain ⟨b,o,e,h1⟩:=hC5.2 i x hx;exact ⟨b,o,e,Qan _ _ _ _ h1⟩⟩);have HA5:=Zh hA5;have HB5:=Zh (Zb HB3.o hb5);have HX5:=Zh (HX3.o.below hb5 HX3.o.lt);have HY5:=Zh (HY3.o.below hb5 HY3.o.lt);have HJ5:=Zh (HJ3.o.below hb5 HJ3.o.lt);have HOK:=Zh hok;clear hNC hG5 hF5 hO5 hC5 hA5 hb5 x0 x1 x2 y0 HX3 HY3 HJ3 hok;obtain ⟨j0,j1,j2,j3⟩:=HJ5.o.four;have HJL:=Zh HJ.o.1;go_wp2_with fail
 with_reducible refine (Raq dep cap lim JA jn jc st w5 (HJ.o.below HB5.o) Oo).mono ?_
 rintro e w7 ⟨A',c',rfl,hst,hb7⟩;have HST7:=Zh hst;have HB7:=Zh hb7;clear hst hb7 j0 j1 j2 j3;go_wp2_with fail
 with_reducible refine (Qgp w7 g o N ls (some ⟨CB,0,none⟩) NC NC cl dep cap lim A' jn c' st (HG5.o.below HB7.o) (HO5.o.below HB7.o) (HC5.o.below HB7.o) HOK.o HMAY.o.part HNC.o HA5.o ⟨Zn _,by have:=HNL.o;omega⟩ HNL.o HST7.o Oo).mono ?_
 unfold MakP;rintro e w9 ⟨⟨b,hpb,hm⟩,hb9⟩
 obtain ⟨d0,hd0,hb0⟩:∃ d0,Qpl N (Qif dep st) d0∧b=Qcm cap lim d0 st:=by
  rcases hpb with ⟨x,h1,_⟩|⟨_,d0,h1,h2⟩
  {rw [HJN.o] at h1;cases h1};{exact ⟨d0,h1,h2⟩}
 have HSQ:=Zh (show sqB (jn+1) d0=true by have:=hd0.sq HOK.o;rwa [Qgq,HJL.o] at this)
 obtain ⟨AA,MM,CC,TT,vv,rfl,hcs⟩:∃ (AA:Oz) (MM CC:Nat) (TT:Int) (vv:Value),e=.returned (.tuple #[.agg #[.slice AA MM CC,.int .i64 TT],vv])∧((Qcm cap lim d0 st≠none∧AA=none∧MM=0∧TT=0∧∃ ty1 xv,vv=.iface ty1 xv)∨(Qcm cap lim d0 st=none∧vv=.nilIface∧∃ out,RdT w9 AA MM out∧Qjn jn cap lim d0 st out∧TT=Qba d0 out)):=by
  cases b with
  | some x =>obtain ⟨px,kx,cx⟩:=x;obtain ⟨v,rfl,hch⟩:=hm;obtain ⟨ty1,xv,rfl⟩:=Qaw hch;exact ⟨_,_,_,_,_,rfl,.inl ⟨by rw [←hb0];simp,rfl,rfl,rfl,_,_,rfl⟩⟩
  | none =>obtain ⟨dd,a,mm,c9,out,hmt,rfl,hr9,hmade,hfits⟩:=hm;obtain rfl:=hmt.uniq hd0;exact ⟨_,_,_,_,_,rfl,.inr ⟨hb0.symm,rfl,out,hr9,of_decide_eq_true (hmade.right HOK.o hmt HJL.o hfits),rfl⟩⟩
 have HCS:=Zh hcs;have HD0:=Zh hd0;have HB9:=Zh (Zb HB5.o (Zb HB7.o hb9));have HX9:=Zh (HX5.o.below (Zb HB7.o hb9) HX5.o.lt);have HJ9:=Zh (HJ5.o.below (Zb HB7.o hb9) HJ5.o.lt);clear hm hpb hd0 hb0 hcs hb9 HST7 HG5 HO5 HC5 HA5 HNC HNL HB7 HB5 HX5 HJ5 HY5 HT b;go_wp2_with fail
 (refine Qai ?_;intro wa hwa);have hba:Below w9.heap.size w9 wa:=by rw [hwa];exact Qag
 have HXP:=Zh (show Blk wa w9.heap.size 45 #[.slice AA MM CC,.int .i64 TT] by rw [hwa];exact Blk.new _ _ _);obtain ⟨pp,hpp⟩:=Zx w9.heap.size;rw [←hpp] at HXP ⊢;have HBA:=Zh (Zb HB9.o hba);have HXA:=Zh (HX9.o.below hba HX9.o.lt);have HJA:=Zh (HJ9.o.below hba HJ9.o.lt);have HCS:=Zh (show (Qcm cap lim d0 st≠none∧AA=none∧MM=0∧TT=0∧∃ ty1 xv,vv=.iface ty1 xv)∨(Qcm cap lim d0 st=none∧vv=.nilIface∧∃ out,RdT wa AA MM out∧Qjn jn cap lim d0 st out∧TT=Qba d0 out) from HCS.o.imp id (fun ⟨h1,h2,out,h3,h4⟩=>⟨h1,h2,out,h3.below hba,h4⟩));clear hwa hba hpp HB9 HX9 HJ9
 have HSX:=Zh (show ∀ V,Bw wa V→V.cell? ⟨w.heap.size,0,none⟩=some (.slice A n c)∧V.cell? ⟨w.heap.size,1,none⟩=some (.slice B m d)∧V.cell? ⟨w.heap.size,2,none⟩=some (.slice C k e)∧V.cell? ⟨w.heap.size+1+1,0,none⟩=some (.int .i64 dep)∧V.cell? ⟨w.heap.size+1+1,1,none⟩=some (.int .i64 cap)∧V.cell? ⟨w.heap.size+1+1,2,none⟩=some (.int .i64 lim)∧V.cell? ⟨w.heap.size+1+1,3,none⟩=some (.slice JA jn jc) from fun V hV=>by
  obtain ⟨a0,a1,a2⟩:=(HXA.o.below hV HXA.o.lt).three;obtain ⟨b0,b1,b2,b3⟩:=(HJA.o.below hV HJA.o.lt).four;exact ⟨a0,a1,a2,b0,b1,b2,b3⟩)
 go_wp2_with fail
 refine wp_region_held_drew (S:=fun V=>Bw wa V) Kf (Zr _ _).drew (fun _=>?_);refine tzb 0 56 ?_;refine Zk 2 (fun K hK=>?_);go_simp;with_reducible refine (Qkg dep cap lim JA jn jc st _ (HJ.o.below (Zb HBA.o (Zr _ _).drew)) Oo).mono ?_
 unfold PtsP;rintro e wb ⟨⟨R,d',rfl,hR⟩,hbb⟩;have hbb':Bw wa wb:=(Zr _ _).drew.trans hbb;go_simp;refine hK.out _ _ hbb' (fun _=>?_);clear hK K;refine Zk 3 (fun K hK=>?_);go_simp;with_reducible refine (Qjh A B C R n m k c d _ (jn+1) d' N (Qif dep st) wb (HH.o.below (Zb HBA.o hbb')) HOK.o hR Oo).mono ?_
 unfold RmlP;rintro e wc ⟨⟨tb,tc,rows,rfl,hrt,hmt⟩,hbc⟩;obtain rfl:=hmt.uniq HD0.o;have hbc':=Zb hbb' hbc;go_simp;refine hK.out _ _ hbc' (fun _=>?_);clear hK K;refine tz 4 13 ?_;refine Zd ?_;have HRT:=Zh hrt;have HBC:=Zh (Zb HBA.o hbc');have HJC:=Zh (HJA.o.below hbc' HJA.o.lt);have HXC:=Zh (HXP.o.below hbc' HXP.o.lt);have HS:=Zh (Qlq HSQ.o);have HCS:=Zh (show (Qcm cap lim rows st≠none∧AA=none∧MM=0∧TT=0∧∃ ty1 xv,vv=.iface ty1 xv)∨(Qcm cap lim rows st=none∧vv=.nilIface∧∃ out,RdT wc AA MM out∧Qjn jn cap lim rows st out∧TT=Qba rows out) from HCS.o.imp id (fun ⟨h1,h2,out,h3,h4⟩=>⟨h1,h2,out,h3.below hbc',h4⟩));clear hrt hmt hbb hbb' hbc hbc' hR HSX HBA HXA HJA HXP HH;go_wp2_with fail
 go_loopw [14] (fun q W=>∃ k0:Nat,k0≤jn∧q=.int .i64 ((k0:Int)+1)∧Qcm cap lim rows st=Qeb (Qha (Qpu cap lim rows) k0 (st.drop k0))∧Bw wc W) (fun q _=>jn+1-(intOf q).toNat)
 case atStart=>exact ⟨0,Nat.zero_le _,rfl,rfl,Zr _ _⟩
 case round =>
  obtain ⟨k0,hk0,rfl,hjb,hb⟩:=hrel;have HJB:=Zh hjb;have HB:=Zh hb;have HXr:=Zh (HXC.o.below hb HXC.o.lt);have HBr:=Zh (Zb HBC.o hb);clear hjb hb;by_cases hlt:k0<jn
  rotate_left
  · (obtain rfl:k0=jn:=Oo);(have i1:¬(k0:Int)+1<k0+1:=Oo);have HE:=Zh (show Qcm cap lim rows st=none by rw [HJB.o,Qhv (by rw [HJL.o];exact Zn _)];rfl);(rcases HCS.o with ⟨h,_⟩|⟨_,rfl,out,hro,hright,rfl⟩);{exact absurd HE.o h};have hbd:=Qgt (decide_eq_true hright);have HRO:=Zh (hro.below HB.o);have HMM:=Zh (show MM≤6 by have:=hro.1;have:=hbd.1;omega);have HSH:=Zh (show Short out from fun r hr=>by have:=hbd.2.1 r hr;omega);have HRP:=Zh hright
    have HSX:=Zh (show ∀ V,Bw wr V→V.cell? ⟨pp,0,none⟩=some (.slice AA MM CC)∧V.cell? ⟨pp,1,none⟩=some (.int .i64 (Qba rows out))∧V.cell? ⟨w.heap.size+1+1,0,none⟩=some (.int .i64 dep)∧V.cell? ⟨w.heap.size+1+1,1,none⟩=some (.int .i64 cap)∧V.cell? ⟨w.heap.size+1+1,2,none⟩=some (.int .i64 lim)∧V.cell? ⟨w.heap.size+1+1,3,none⟩=some (.slice JA k0 jc) from fun V hV=>by
     obtain ⟨a0,a1,_⟩:=(HXr.o.below hV HXr.o.lt).two;obtain ⟨b0,b1,b2,b3⟩:=(HJC.o.below (Zb HB.o hV) HJC.o.lt).four;exact ⟨a0,a1,b0,b1,b2,b3⟩)
    have HRR:=Zh (fun V (hV:Bw wr V)=>Qvh dep cap lim JA AA tb k0 jc MM CC (k0+1) tc st rows out V (HJ.o.below (Zb HBr.o hV)) HJK.o.ld (HRO.o.below hV) (HRT.o.below (Zb HB.o hV)) HS.o Oo Oo (by have:=HMM.o;omega) HRP.o);have HTR:=Zh (fun V (hV:Bw wr V)=>Qmb tb AA (k0+1) tc MM CC rows out V (HRT.o.below (Zb HB.o hV)) HS.o Oo (HRO.o.below hV) HSH.o (by have:=HMM.o;omega));clear hro hright hbd;(go_wp2_with fail);(refine wp_region_held_drew (S:=fun V=>Bw wr V) Kf (Zr _ _).drew (fun _=>?_);refine tzd 0 112 ?_;refine tzb 4 116 ?_;refine tz 6 118 ?_;refine Zk 7 (fun K hK=>?_);go_simp;with_reducible refine (HRR.o _ (Zr _ _).drew).mono ?_);(rintro e wd ⟨rfl,hbd⟩;have hbd':Bw wr wd:=(Zr _ _).drew.trans hbd;go_simp;refine hK.out _ _ hbd' (fun _=>?_);clear hK K;refine tzd 8 120 ?_;refine tzb 12 124 ?_;refine tz 14 126 ?_;refine Zk 15 (fun K hK=>?_);go_simp;with_reducible refine (HTR.o wd hbd').mono ?_);rintro e we ⟨rfl,hbe⟩;have hbe':=Zb hbd' hbe;go_simp;refine hK.out _ _ hbe' (fun _=>?_);clear hK K;refine tzb 16 128 ?_;refine tz 18 6 ?_;refine Zd ?_;have HBE:=Zh (Zb HBr.o hbe');clear hbd hbd' hbe hbe' HSX HRR HTR;(go_wp2_with fail);go_ret;exact ⟨Qao Sm,HBE.o⟩
  obtain ⟨sb,so,x,y,hJA,hx,hcx,hcy⟩:=HJ.o.at_ hlt;have HX:=Zh hx;obtain ⟨t0,u0,t1,u1,c1,hTB,r1,r2⟩:=HRT.o.two HS.o (i:=0) (j:=k0+1) Oo Oo;obtain ⟨t0',u0',t2,u2,c2,e1,r3,r4⟩:=HRT.o.two HS.o (i:=k0+1) (j:=0) Oo Oo;subst hJA;rw [hTB] at e1;cases e1;subst hTB;rw [Nat.add_zero] at r1 r4
  have HSX:=Zh (show ∀ V,Bw wr V→V.cell? ⟨t0,u0,none⟩=some (.slice (some ⟨t1,u1,none⟩) (jn+1) c1)∧V.cell? ⟨t1,u1+(k0+1),none⟩=some (.int .i64 (Qas rows 0 (k0+1)))∧V.cell? ⟨t0,u0+(k0+1),none⟩=some (.slice (some ⟨t2,u2,none⟩) (jn+1) c2)∧V.cell? ⟨t2,u2,none⟩=some (.int .i64 (Qas rows (k0+1) 0))∧V.cell? ⟨w.heap.size+1+1,1,none⟩=some (.int .i64 cap)∧V.cell? ⟨w.heap.size+1+1,2,none⟩=some (.int .i64 lim)∧V.cell? ⟨w.heap.size+1+1,3,none⟩=some (.slice (some ⟨sb,so,none⟩) jn jc)∧V.cell? ⟨sb,so+k0*2+1,none⟩=some (.int .i64 y) from fun V hV=>by
   have hV2:=Zb HB.o hV;have hV3:=Zb HBr.o hV;obtain ⟨b0,b1,b2,b3⟩:=(HJC.o.below hV2 HJC.o.lt).four;exact ⟨Zc hV2 (Zn _) r1,Zc hV2 (Zn _) r2,Zc hV2 (Zn _) r3,Zc hV2 (Zn _) r4,b1,b2,b3,Zc hV3 (Zn _) hcy⟩)
  have hAD:=Zh (fun V=>Qlk (Qas rows 0 (k0+1)) (Qas rows (k0+1) 0) V);obtain ⟨tr,htr⟩:=Zx (Qio (Qas rows 0 (k0+1)) (Qas rows (k0+1) 0));rw [←htr] at hAD;have HTR:=Zh htr;have i1:0≤(k0:Int)+1:=Oo
  have i2:(k0:Int)+1<jn+1:=Oo
  have i5:0<(jn:Int)+1:=Oo
  have i6:(k0:Int)<jn:=Oo
  have i7:0≤(k0:Int):=Oo
  have n1:((k0:Int)+1).toNat=k0+1:=Oo
  have e3:IntKind.i64.wrap ((k0:Int)+1-1)=(k0:Int):=by rw [show (k0:Int)+1-1=(k0:Int) by omega];exact IntWalk.i64_in _ Oo
  have e4:IntKind.i64.wrap (k0:Int)=(k0:Int):=IntWalk.i64_in _ Oo;clear r1 r2 r3 r4 hx hcx hcy htr;go_wp2_with fail
  refine wp_region_held_drew (S:=fun V=>Bw wr V) Kf (Zr _ _).drew (fun _=>?_);refine tzd 0 66 ?_;refine tzd 4 70 ?_;refine tzd 8 74 ?_;refine Zk 12 (fun K hK=>?_);go_simp;with_reducible refine (hAD.out _).mono ?_
  rintro r w' ⟨rfl,rfl⟩;go_simp;refine hK.out _ _ (Zr _ _).drew (fun _=>?_);clear hK K;refine tz 13 15 ?_;refine Zd ?_;go_wp2_with fail
  refine wp_region_held_drew (S:=fun V=>Bw wr V) Kf (by repeat (first|exact Zr _ _|apply Below.drew)) (fun _=>?_);refine tzd 0 79 ?_;refine tzd 4 83 ?_;refine tz 8 87 ?_;by_cases g1:y > cap;{(skip);refine tzb 9 88 ?_;refine tw 11 90 ?_;refine tw 12 91 ?_;refine tzb 13 92 ?_;refine tw 15 94 ?_;refine tw 16 95 ?_;refine tw 17 96 ?_;refine tw 18 97 ?_;refine tz 19 98 ?_;exact Kaj};refine tzb 9 88 ?_;refine tz 11 90 ?_;by_cases g2:tr=1152921504606846976;{subst g2;refine tzb 12 91 ?_;refine tz 14 93 ?_;refine tw 15 94 ?_;refine tw 16 95 ?_;refine tw 17 96 ?_;refine tw 18 97 ?_;refine tz 19 98 ?_;exact Kaj};have q2:(tr == 1152921504606846976)=false:=by simpa using g2
  refine tzd 12 91 ?_;refine tzb 16 95 ?_;by_cases g3:tr > lim;{(skip);refine tzb 18 97 ?_;exact Kaj};have HN:=Zh (Qfs HX.o (Qrp.2 ⟨Sn,by rw [←HTR.o];exact g2,by rw [←HTR.o];exact g3⟩));refine tzb 18 97 ?_;refine Zd ?_;clear HSX;go_wp2_with fail
  go_roundw;case rel=>exact ⟨k0+1,Oo,by go_num,by rw [←HN.o];exact HJB.o,(HB.o.drew).drew⟩
  case measure=>simp [intOf];omega
end Go.Proofs.YtkaaakbejnlbgaaGreatDoor
namespace Go.Proofs.YtkaaakbejnlbgaaGreatDoor
open Go.ChangeShapes Go.WideShapes Go.ChangeAt Go.RowKit Go.Deep
namespace PlanFailsDone
theorem lifted (os:Os)(started:os.Started)(H:Type)(enc:TypeId×Value→H) :
 ReturnsInHanded {} Tryz.checked os 8 .any (fun w args => (Rows.planFailsSpec.pre enc Tryz.prog Tryz.f8 [] false w args ∧ laidMetH Tryz.prog [("errors.errorType", Rows.laid_errors_errorType)] w) ∧ sizedMet enc Tryz.prog Tryz.f8 (OpenSpec.ofChange Rows.planFailsSpec) false w args)
  (Rows.planFailsSpec.post enc Tryz.prog Tryz.f8 false true false false):=by
 refine returnsInHanded_of_change_and (C := Tryz.checked) (X := fun w _ => laidMetH Tryz.prog [("errors.errorType", Rows.laid_errors_errorType)] w) (fun _ _ _ hh h => h.of_heap hh) own_ started (by kernel_rfl) Tryz.func8
  (ChangeSpec.witness_at (enc := enc) (C := Tryz.checked) (os := os) (X := fun w _ => laidMetH Tryz.prog [("errors.errorType", Rows.laid_errors_errorType)] w) false (Qhl os) #[.agg #[.slice none 0 0, .slice none 0 0, .slice none 0 0], .agg #[.slice none 0 0], .agg #[.int .i64 0, .int .i64 0, .int .i64 0, .slice none 0 0]] 8 rfl (by kernel_rfl) (by kernel_rfl) (by kernel_rfl) (by kernel_rfl) (by kernel_rfl) (Qek os _)) ?_
 intro W base args ds gs before hval0 hW _ hsz0 hL _;clear hsz0;have hval:∀ (j:Nat) t v,Tryz.f8.params[j]?=some t→args[j]?=some v→Value.okWide Tryz.prog W .any base t v:=hval0;have hW':=hW;obtain ⟨p,q,hA0,hV,rfl,hfz,hnd⟩:=hW;have hA:DataW.TrodAll enc Tryz.prog W 0 (fun _=>true) true Tryz.f8.params.toList args.toList ds p:=hA0;rw [Tryz.params8] at hA hval;obtain ⟨v0,vs0,d0,ds0,p0,q0,hargs,rfl,rfl,h0,r0⟩:=trodAll_cons hA;obtain ⟨v1,vs1,d1,ds1,p1,q1,rfl,rfl,rfl,h1,r1⟩:=trodAll_cons r0;obtain ⟨v2,vs2,d2,ds2,p2,q2,rfl,rfl,rfl,h2,r2⟩:=trodAll_cons r1;obtain ⟨rfl,rfl,rfl⟩:=trodAll_nil r2;obtain rfl:args=#[v0,v1,v2]:=by cases args;simp_all
 obtain ⟨rfl,rfl⟩:=trodVars_none hV;obtain ⟨cs0,rfl,_⟩:=okWide_struct Tryz.underlying26 (hval 0 26 v0 rfl rfl);have k0:=h0;have lt0:∀ x∈p0,x.block<W.heap.size:=by obtain ⟨m,hm⟩:=k0;exact DataW.trod_lt m _ _ _ hm
 obtain ⟨A,B,C,n,m,k,c,d,e,N,hcs0,hnet,hk⟩:∃ (A B C:Option Addr) (n m k c d e:Nat) (N:Qak),cs0=#[.slice A n c,.slice B m d,.slice C k e]∧Qcp W A B C n m k N∧k≤9223372036854775807:=by{exact Kav};subst hcs0;obtain ⟨cs1,rfl,_⟩:=okWide_struct Tryz.underlying29 (hval 1 29 v1 rfl rfl);have k1:=h1;have lt1:∀ x∈p1,x.block<W.heap.size:=by obtain ⟨m,hm⟩:=k1;exact DataW.trod_lt m _ _ _ hm
 obtain ⟨Q,L,cq,ls,hcs1,hpart,hLc⟩:∃ (Q:Option Addr) (L cq:Nat) (ls:List (List Int)),cs1=#[.slice Q L cq]∧RdT W Q L ls∧L≤9223372036854775807:=by{exact Kde};subst hcs1;obtain ⟨cs2,rfl,_⟩:=okWide_struct Tryz.underlying32 (hval 2 32 v2 rfl rfl);have k2:=h2;have lt2:∀ x∈p2,x.block<W.heap.size:=by obtain ⟨m,hm⟩:=k2;exact DataW.trod_lt m _ _ _ hm
 obtain ⟨dep,cap,lim,JA,jn,jc,st,hcs2,hjob⟩:∃ (dep cap lim:Int) (JA:Option Addr) (jn jc:Nat) (st:List (Int×Int)),cs2=#[.int .i64 dep,.int .i64 cap,.int .i64 lim,.slice JA jn jc]∧RdP W JA jn st:=by{exact Kcx};subst hcs2;clear hA0 hval0;have hg:=Qdv hL;refine (Qpx A B C Q n m k c d e L cq N ls dep cap lim JA jn jc st W hnet hk hpart hLc hjob hg).mono fun e W' ⟨he,bel⟩=>?_
 exact Kao
theorem jf0:Rows.planFailsRow.wf (OpenSpec.ofChange Rows.planFailsSpec)=true:=by kernel_rfl
theorem jf1:laidOutB Tryz.prog=true:=by kernel_rfl
theorem jf2:mapsRowed Tryz.prog=true:=by kernel_rfl
theorem jf3:Tryz.f8.params.all (Tryz.prog.readableRec ·)=true:=by kernel_rfl
theorem jf4:namedTie Tryz.prog Rows.planFailsRow.named Rows.planFailsSpec.vars=true:=by kernel_rfl
theorem jf5:(Rows.planFailsRow.stops == [])=true:=by kernel_rfl
theorem jf6:(Tryz.prog.stops == [])=true:=by kernel_rfl
theorem jf7:(Rows.planFailsRow.knobs == [])=true:=by kernel_rfl
theorem jf8:(Tryz.prog.stopKnobs == [])=true:=by kernel_rfl
theorem jf9:(Rows.planFailsRow.inPlace == Tryz.prog.inPlace 8)=true:=by kernel_rfl
theorem jf10:(Rows.planFailsRow.unfollowed == Tryz.prog.unfollowed 8)=true:=by kernel_rfl
theorem jf11:(Rows.planFailsRow.recurses == Tryz.prog.recurses 8)=true:=by kernel_rfl
theorem jf12:(Rows.planFailsRow.named == Tryz.prog.varsNamed 8)=true:=by kernel_rfl
theorem jf13:(Rows.planFailsRow.maps == (Tryz.f8.params.toList ++Rows.planFailsSpec.plain.varTypes Tryz.prog).any (Tryz.prog.mapsRec ·))=true:=by kernel_rfl
theorem jf14:(Rows.planFailsRow.ifaces == (Tryz.f8.params.toList ++Rows.planFailsSpec.plain.varTypes Tryz.prog).any (Tryz.prog.ifacesRec ·))=true:=by kernel_rfl
theorem jf15:(Rows.planFailsRow.mapsOut == Tryz.prog.mapsAmong Tryz.f8.resultTypes.toList)=true:=by kernel_rfl
theorem jf16:(Rows.planFailsRow.loops == (Tryz.f8.params.toList ++Rows.planFailsSpec.plain.varTypes Tryz.prog).any (Tryz.prog.loopsFrom ·))=true:=by kernel_rfl
theorem jf17:(Rows.planFailsRow.wideKeys == (Tryz.f8.params.toList ++Rows.planFailsSpec.plain.varTypes Tryz.prog ++Tryz.f8.resultTypes.toList).any (Tryz.prog.wideKeysFrom ·))=true:=by kernel_rfl
theorem jf18:Rows.planFailsSpec.vars.all (Tryz.prog.varReadable ·)=true:=by kernel_rfl
theorem jf19:Tryz.f8.resultTypes.all (fun t=>Tryz.prog.readableRec t && decide (t<Tryz.prog.types.size))=true:=by kernel_rfl
theorem jf20:(Rows.planFailsRow.ifacesOut == Tryz.f8.resultTypes.toList.any (Tryz.prog.ifacesRec ·))=true:=by kernel_rfl
theorem jf21:(Rows.planFailsRow.loopsOut == Tryz.f8.resultTypes.toList.any (Tryz.prog.loopsFrom ·))=true:=by kernel_rfl
theorem jf22:(Rows.planFailsRow.plainKeys == Tryz.prog.plainKeys)=true:=by kernel_rfl
theorem jf23:Rows.planFailsRow.shortTexts.isNone=true:=by kernel_rfl
theorem jf24:Tryz.prog.stopsHeard=true:=by kernel_rfl
theorem jf25:Tryz.prog.mayEnter=true:=by kernel_rfl
theorem jf26:(Rows.planFailsRow.lifted == Tryz.prog.liftsFinal)=true:=by kernel_rfl
theorem jf27:(Tryz.prog.make == some Rows.planFailsRow.make)=true:=by kernel_rfl
theorem jf28:(Rows.planFailsRow.kinds == (if Rows.planFailsRow.domain.isEmpty then [] else Tryz.f8.params.toList.map fun t=>match Tryz.prog.underlying t with|some (.int k)=>some k|_=>none))=true:=by kernel_rfl
theorem jf29:(Rows.planFailsRow.pinned == Rows.planFailsRow.pinnedBy)=true:=by kernel_rfl
theorem jf30:(Rows.planFailsRow.veiled == (Tryz.f8.params.toList ++Rows.planFailsSpec.plain.varTypes Tryz.prog ++Tryz.f8.resultTypes.toList).any (Tryz.prog.veiledRec ·))=true:=by kernel_rfl
theorem jf31:Rows.planFailsRow.veiledFits Tryz.prog Tryz.f8.params.toList (Tryz.f8.params.toList ++Rows.planFailsSpec.plain.varTypes Tryz.prog ++Tryz.f8.resultTypes.toList)=true:=by kernel_rfl
theorem closed:joinedFacts Tryz.prog 8 Tryz.f8 Rows.planFailsSpec Rows.planFailsRow=true:=by exact Kak
theorem named : Tryz.prog.funcNamed "roundsman/roundsmanlaw27.PlanFails" = some 8 := by kernel_rfl
theorem inst:Tryz.f8.isInstance Tryz.prog Rows.planFailsRow.origin Rows.planFailsRow.targs:=of_decide_eq_true (by kernel_rfl)
theorem wrap:Tryz.f8.isWrapper Tryz.prog Rows.planFailsRow.wrapper Rows.planFailsRow.mainSum:=by unfold Func.isWrapper;rw [if_neg (of_decide_eq_false (by kernel_rfl))];exact ⟨rfl,rfl⟩
theorem over:Rows.PlanFailsSaid :=
 OpenClaim.holds_of_wide 8 Tryz.f8 rfl rfl rfl rfl rfl rfl rfl ⟨rfl,rfl,rfl,rfl,rfl⟩ rfl rfl rfl rfl rfl named Tryz.func8 closed inst wrap
  (fun os started H enc _=>lifted os started H enc)
theorem byText:Rows.planFailsRow.wfByText (OpenSpec.ofChange Rows.planFailsSpec)=true:=by kernel_rfl
theorem mainIs : Tryz.prog.mainIs = some (((true, "f25173250175b9aacc832745e98502d9796bb224982b4f95df53e49dc850ce8a") : Bool × String).1, ((true, "f25173250175b9aacc832745e98502d9796bb224982b4f95df53e49dc850ce8a") : Bool × String).2.toList) := by kernel_rfl
theorem looksL:true=Tryz.prog.looks []:=by kernel_rfl
theorem goes:false=Rows.planFailsRow.goesBy Tryz.prog:=by kernel_rfl
theorem proved:Rows.PlanFailsCardSaid :=
 Claim7.holds_tied_plain_at .later [] [.handle] true (true, "f25173250175b9aacc832745e98502d9796bb224982b4f95df53e49dc850ce8a") true
  over (fun _ h=>by cases h) byText (fun _ h=>by cases h) planFails_row_tie rfl ⟨rfl,rfl⟩ mainIs rfl
  (fun f fn hf hfn=>by
   obtain rfl:f=8:=Yv (named.symm.trans hf) |>.symm
   obtain rfl:fn=Tryz.f8:=(Yv (Tryz.func8.symm.trans hfn)).symm
   exact ⟨looksL,fun j t ht=>by
    rw [Tryz.params8] at ht
    rcases j with _|_|_|j
    · obtain rfl:t=26:=by simpa using ht.symm
      exact (show Tryz.prog.wantsStandIn 26=false by kernel_rfl)
    · obtain rfl:t=29:=by simpa using ht.symm
      exact (show Tryz.prog.wantsStandIn 29=false by kernel_rfl)
    · obtain rfl:t=32:=by simpa using ht.symm
      exact (show Tryz.prog.wantsStandIn 32=false by kernel_rfl)
    · simp at ht⟩)
  goes
#print axioms proved
end PlanFailsDone
