/- Qbl of the proof: PlH, LoW. -/
import Derived.Test.YtkaaakbejnlbgaaGreatDoorE27
set_option maxHeartbeats 4000000
set_option maxRecDepth 100000
namespace Go.Proofs.YtkaaakbejnlbgaaGreatDoor
open Go.RowKit Go.Proofs.Tryz
attribute [local go_sem ↓] Go.wp_at_zero Go.wp_at_succ
def chkR (N:Nat)(cap lim:Int) (ls:Lz) (st:Pz):Nat→Iz→Lz→Option (ByteArray×Int×Int)
 | _,_,[]=>none
 | i,P,r::t=>if Qzt N cap lim ls st P r=0 then chkR N cap lim ls st (i+1) (P ++r) t else some ((⟨#[114,111,117,116,101]⟩:ByteArray),(i:Int),Qzt N cap lim ls st P r)
def misF (P:Iz)(k:Nat)(_:Unit):Option Int:=if (k:Int)∈P then none else some 12
def Qte (N:Nat) (ls rs:Lz) (cost:Int) (k:Nat):Option (ByteArray×Int×Int):=match Qha (misF rs.flatten) k ((List.replicate N ()).drop k) with
 | some x=>Qeb (some x)
 | none=>if cost=Qba ls rs then none else some ((⟨#[112,108,97,110]⟩:ByteArray),0,11)
def Qkq (N:Nat)(cap lim:Int) (ls:Lz) (st:Pz) (rs:Lz) (cost:Int) (i:Nat) (P:Iz) (l:Lz):Option (ByteArray×Int×Int):=match chkR N cap lim ls st i P l with
 | some x=>some x
 | none=>Qte N ls rs cost 0
def PlC (N:Qak)(dep cap lim:Int)(n:Nat) (st:Pz) (rs:Lz) (cost:Int) (b:Option (ByteArray×Int×Int)):Prop :=
 (∃ x,Qbf N.ar.length dep cap lim st=some x∧b=some x)∨(Qbf N.ar.length dep cap lim st=none∧∃ d,Qpl N (Qif dep st) d∧b=Qkq n cap lim d st rs cost 0 [] rs)
theorem PlC.uniq {N:Qak}{dep cap lim cost:Int}{n:Nat} {st:Pz} {rs:Lz} {b b':Option (ByteArray×Int×Int)} (h:PlC N dep cap lim n st rs cost b) (g:PlC N dep cap lim n st rs cost b'):b=b':=by exact Kcg
def ChkP (w:World)(N:Qak)(dep cap lim:Int)(n:Nat) (st:Pz) (rs:Lz) (cost:Int) (e:Ending) (w':World):Prop:=∃ b,PlC N dep cap lim n st rs cost b∧ErP w b e w'
theorem Qyp {N:Nat}{x:Int}:∀ {l P:Iz},Qhd N P l=some x→x≠0
 | [],_,h=>by cases h
 | y::t,P,h=>by
  unfold Qhd at h;split at h
  {cases h;decide};split at h
  {cases h;decide};{exact Qyp h}
theorem Qma (w:World)(g:Nat)(N:Qak)(dep cap lim:Int)(A:Oz)(n c:Nat) (st:Pz) (RA:Oz) (rn rc:Nat) (rs:Lz) (cost:Int) (hg:Qfg w g N) (hok:Qar N) (hj:RdP w A n st) (hn:n≤900) (hr:RdT w RA rn rs) (hrn:rn≤1000000) (hsh:∀ r∈rs,r.length≤1000000) :
 Calls prog 21 #[.pointer (some ⟨g,0,none⟩),Qia dep cap lim A n c,.agg #[.slice RA rn rc,.int .i64 cost]] w (ChkP w N dep cap lim n st rs cost):=by
 obtain ⟨m,hmm⟩:=Zx N.ar.length;have HGA:=Zh (show ∀ V,Bw w V→Calls prog 39 #[.pointer (some ⟨g,0,none⟩)] V fun e w'=>e=.returned (.int .i64 m)∧V=w' from fun V hV=>by rw [hmm];exact Qdj g N V (hg.below hV));have HCK:=Zh (fun V (hV:Bw w V)=>Qhk m dep cap lim A n c st V (hj.below hV) Oo);have HPT:=Zh (fun V (hV:Bw w V)=>Qgm dep cap lim A n c st V (hj.below hV) Oo);have HMO:=Zh (fun V (hV:Bw w V) R d (hR:RdI V R (n+1) (Qif dep st))=>Qfd V g N R (n+1) d (Qif dep st) (hg.below hV) hok hR Oo);have HOK:=Zh hok;have HMM:=Zh hmm;have HJ:=Zh hj;have HR:=Zh hr;have HRL:=Zh hr.1;have HSH:=Zh hsh;have hmk:∀ W,(Instr.makeSlice 123 (.int .i64 ((n:Int)+1)) (.int .i64 ((n:Int)+1))).run prog W=.ok (.slice (some ⟨W.heap.size,0,none⟩) (n+1) (n+1)) (W.alloc (.cells (Qbg (.bool false) (n+1)) 4)):=fun W=>Qki (n+1) Oo W
 clear hg hok hj hmm hr hsh;go_enter func21,ntmps21
 go_wp2_with fail
 (refine Qai ?_;intro w1 hw1);have HB1:=Zh (show Bw w w1 by rw [hw1];exact Qag);have HJ1:=Zh (show Blk w1 w.heap.size 42 #[.int .i64 dep,.int .i64 cap,.int .i64 lim,.slice A n c] by rw [hw1];exact Blk.alloc (Blk.new _ _ _) _);have HP1:=Zh (show Blk w1 (w.heap.size+1) 45 #[.slice RA rn rc,.int .i64 cost] by rw [hw1];exact Blk.new' _ _ _ Sm);clear hw1;have HSX:=Zh (show ∀ V,Bw w1 V→V.cell? ⟨w.heap.size,0,none⟩=some (.int .i64 dep)∧V.cell? ⟨w.heap.size,1,none⟩=some (.int .i64 cap)∧V.cell? ⟨w.heap.size,2,none⟩=some (.int .i64 lim)∧V.cell? ⟨w.heap.size,3,none⟩=some (.slice A n c) from fun V hV=>(HJ1.o.below hV HJ1.o.lt).four);refine wp_region_held_drew (S:=fun V=>Bw w1 V) Kf (Zr _ _).drew (fun _=>?_);refine tz 0 14 ?_;refine tz 2 16 ?_;refine Zk 1 (fun K hK=>?_);go_simp;with_reducible refine (HGA.o _ (HB1.o.drew)).mono ?_
 rintro e w' ⟨rfl,rfl⟩;go_simp;refine hK.out _ _ (Zr _ _).drew (fun _=>?_);clear hK K;refine Zk 3 (fun K hK=>?_);go_simp;with_reducible refine (HCK.o _ (HB1.o.drew)).mono ?_
 cases hjb:Qbf m dep cap lim st with
 | some x =>
  obtain ⟨px,kx,cx⟩:=x;unfold ErP;rintro e w2 ⟨⟨v,rfl,hc⟩,hb2⟩;have HBX:=Zh ((Zr w1.heap.size w1).drew.trans hb2);have HPC:=Zh (show PlC N dep cap lim n st rs cost (some (px,kx,cx)) from .inl ⟨_,by rw [←HMM.o];exact hjb,rfl⟩);clear hb2 hjb;go_simp;refine hK.out _ _ HBX.o (fun _=>?_);clear hK K;refine tz 4 7 ?_;refine Zd ?_;obtain ⟨tv,xv,rfl⟩:=Qaw hc;have HC:=Zh hc;clear hc HSX;go_wp2_with fail
  go_ret;unfold ChkP ErP;exact ⟨some _,HPC.o,⟨_,rfl,HC.o⟩,Zb HB1.o HBX.o⟩
 | none =>
  have HJK:=Zh (Qex hjb);unfold ErP;rintro e w2 ⟨rfl,hb2⟩;have HB2:=Zh ((Zr w1.heap.size w1).drew.trans hb2);have HJN0:=Zh (show Qbf N.ar.length dep cap lim st=none by rw [←HMM.o];exact hjb);clear hb2 hjb;go_simp;refine hK.out _ _ HB2.o (fun _=>?_);clear hK K;refine tz 4 7 ?_;refine Zd ?_;obtain ⟨x0,x1,x2,x3⟩:=HSX.o w2 HB2.o;go_wp2_with fail
  with_reducible refine (HPT.o w2 (Zb HB1.o HB2.o)).mono ?_
  unfold PtsP;rintro e w3 ⟨⟨R,d,rfl,hR⟩,hb3⟩;have HB3:=Zh (Zb HB2.o hb3);have HTX:=Zh (HMO.o w3 (Zb HB1.o HB3.o) R d hR);clear hR hb3 HB2 x0 x1 x2 x3 HPT HMO;go_wp2_with fail
  with_reducible refine HTX.o.mono ?_
  unfold MdlP;rintro e w4 ⟨⟨td,rows,rfl,hrt,hmd⟩,hb4⟩;have HB4:=Zh (Zb HB3.o hb4);have HPC:=Zh (show ∀ b,b=Qkq n cap lim rows st rs cost 0 [] rs→PlC N dep cap lim n st rs cost b from fun b hb=>.inr ⟨HJN0.o,rows,hmd,hb⟩);have HSQ:=Zh (show Sq (n+1) rows by have:=Qlq (hmd.sq HOK.o);rwa [Qgq,HJ.o.1] at this);have HRT:=Zh hrt;obtain ⟨x0,x1,x2,x3⟩:=HSX.o w4 HB4.o;have HP4:=Zh (HP1.o.below HB4.o HP1.o.lt);have p0:w4.cell? ⟨w.heap.size+1,0,none⟩=some (.slice RA rn rc):=Zq HP4.o;have hpl:=HP4.o.lt;clear hrt hmd hb4 HB3 HTX;go_wp2_with fail
  (refine Qai ?_;intro w5 hw5);obtain ⟨tb,htb⟩:∃ b,b=w4.heap.size:=⟨_,rfl⟩;have hb5:Below w4.heap.size w4 w5:=by rw [hw5];exact (Zr _ _).alloc (Zn _) _
  have HT5:=Zh (show Blk w5 tb 4 (Qdy (List.replicate (n+1) false)) by rw [hw5,htb,Qil];exact Blk.new _ _ _);have HLE:=Zh (show Le w4 (msk w5 (fun b=>b≠tb)) from Le.mskBelow hb5 (fun b hb=>by omega));have HB5:=Zh (Zb HB1.o (Zb HB4.o hb5));have HB45:=Zh (show w.heap.size+1<tb∧w.heap.size≤tb from ⟨Oo,Oo⟩);have HP5:=Zh (HP4.o.below hb5 HP4.o.lt);have HJ5:=Zh ((HJ1.o.below HB4.o HJ1.o.lt).below hb5 Oo);have hc4:=Zb HB1.o HB4.o;have HRD:=Zh (show RdP (msk w5 (fun b=>b≠tb)) A n st∧RdT (msk w5 (fun b=>b≠tb)) RA rn rs∧RdT (msk w5 (fun b=>b≠tb)) (some ⟨td,0,none⟩) (n+1) rows from ⟨(HJ.o.below hc4).le HLE.o,(HR.o.below hc4).le HLE.o,HRT.o.le HLE.o⟩);rw [←htb];clear hw5 htb hb5 hc4 hpl hmk x0 x1 x2 x3 p0 HRT HP4 HSX HB4 HJ1 HP1;go_loopw [33] (fun q W=>∃ (i:Nat) (bl:List Bool),i≤rn∧q=.int .i64 i∧Blk W tb 4 (Qdy bl)∧Qgf n bl (rs.take i).flatten∧Aft (fun b=>b≠tb) w5 W∧Qkq n cap lim rows st rs cost 0 [] rs=Qkq n cap lim rows st rs cost i (rs.take i).flatten (rs.drop i)) (fun q _=>rn-(intOf q).toNat)
  case atStart=>exact ⟨0,_,Nat.zero_le _,rfl,HT5.o,Qgf.start n,Aft.refl _ _,rfl⟩
  case round =>
   clear HT5;obtain ⟨i,bl,hi,rfl,hb,hse,ha,hch⟩:=hrel;have HB:=Zh hb;have HSE:=Zh hse;have HA:=Zh ha;have HJB:=Zh hch;have HJW:=Zh (show Blk wr w.heap.size 42 #[.int .i64 dep,.int .i64 cap,.int .i64 lim,.slice A n c] from (ha.kept _ (by have:=HB45.o.1;omega) HJ5.o.lt).trans HJ5.o);have HPW:=Zh (show Blk wr (w.heap.size+1) 45 #[.slice RA rn rc,.int .i64 cost] from (ha.kept _ (by have:=HB45.o.1;omega) HP5.o.lt).trans HP5.o);have hle:=Qaz.msk ha.kept;have HRW:=Zh (show RdP (msk wr (fun b=>b≠tb)) A n st∧RdT (msk wr (fun b=>b≠tb)) RA rn rs∧RdT (msk wr (fun b=>b≠tb)) (some ⟨td,0,none⟩) (n+1) rows from ⟨HRD.o.1.le hle,HRD.o.2.1.le hle,HRD.o.2.2.le hle⟩);have HBX0:=Zh (show Bw w wr from HB5.o.trans (ha.bel _ (fun b hb=>by have:=HB45.o.2;omega)));clear hb hse ha hch hle;(by_cases hlt:i<rn);rotate_left
   · (obtain rfl:i=rn:=Oo);(have i1:¬(i:Int)<i:=Oo);have hfl:rs.take i=rs:=Ye (by rw [HRL.o];exact Zn _);have hj2:Qkq n cap lim rows st rs cost 0 [] rs=Qte n rows rs cost 0:=by{rw [HJB.o,List.drop_of_length_le (by rw [HRL.o];exact Zn _)];rfl};have HJ2:=Zh hj2;rw [hfl] at HSE;clear hfl hj2 HJB;(go_wp2_with fail);(go_loopw [13] (fun q W=>∃ k:Nat,k≤n∧q=.int .i64 ((k:Int)+1)∧wr=W∧Qkq n cap lim rows st rs cost 0 [] rs=Qte n rows rs cost k) (fun q _=>n+1-(intOf q).toNat));case atStart=>exact ⟨0,Nat.zero_le _,rfl,rfl,HJ2.o⟩
     case round =>
      obtain ⟨k,hk,rfl,rfl,hch⟩:=hrel;have HJB:=Zh hch;clear hch;(by_cases hlt2:k<n);rotate_left
      · (obtain rfl:k=n:=Oo);have k1:¬(k:Int)+1<k+1:=Oo
        have HJ3:=Zh (show Qkq k cap lim rows st rs cost 0 [] rs=if cost=Qba rows rs then none else some ((⟨#[112,108,97,110]⟩:ByteArray),0,11) by
         rw [HJB.o];unfold Qte;rw [Qhv Sm])
        have hp4:=HPW.o;have HSX:=Zh (show ∀ V,Bw wr V→V.cell? ⟨w.heap.size+1,0,none⟩=some (.slice RA i rc)∧V.cell? ⟨w.heap.size+1,1,none⟩=some (.int .i64 cost) from fun V hV=>⟨Zc hV (Zn _) (Zq hp4),Zc hV (Zn _) (Zq hp4)⟩);have HTO:=Zh (Qgi (some ⟨td,0,none⟩) RA (k+1) (k+1) i rc rows rs wr.drew ((HRW.o.2.2.le (Qan _ _)).below (Zr _ _).drew) HSQ.o Oo ((HRW.o.2.1.le (Qan _ _)).below (Zr _ _).drew) HSH.o Oo);obtain ⟨tot,htot⟩:∃ t,t=Qba rows rs:=⟨_,rfl⟩;rw [←htot] at HTO HJ3;clear hp4 htot;(go_wp2_with fail);(refine wp_region_held_drew (S:=fun V=>Bw wr V) Kf (Zr _ _).drew (fun _=>?_);refine tzd 0 68 ?_;refine tz 4 72 ?_;refine Zk 5 (fun K hK=>?_);go_simp;with_reducible refine HTO.o.mono ?_);rintro e w' ⟨rfl,rfl⟩;go_simp;refine hK.out _ _ (Zr _ _).drew (fun _=>?_);clear hK K;refine tz 6 74 ?_;refine Zd ?_;by_cases hct:cost=tot;{have HE:=Zh (show Qkq k cap lim rows st rs cost 0 [] rs=none by rw [HJ3.o,if_pos hct]);(have e1:(cost != tot)=false:=by simp [hct]);clear hct;(go_wp2_with fail);go_ret;unfold ChkP ErP;exact ⟨none,HPC.o _ HE.o.symm,rfl,Zb HBX0.o Qag⟩};{have HE:=Zh (show Qkq k cap lim rows st rs cost 0 [] rs=some ((⟨#[112,108,97,110]⟩:ByteArray),0,11) by rw [HJ3.o,if_neg hct]);(have e1:(cost != tot)=true:=by simp [hct]);have HBX:=HBX0;clear hct;(go_wp2_with fail);go_ret;unfold ChkP ErP;refine ⟨some ((⟨#[112,108,97,110]⟩:ByteArray),0,11),HPC.o _ (Eq.symm (by first|exact HE.o|exact HJB.o.trans HE.o)),⟨_,rfl,⟨wr.heap.size,0,Qwf 11,rfl,?_,?_,?_,rfl⟩⟩,?_⟩;all_goals first|(refine Zb HBX.o ?_;exact Qag)|simp}
      (have k1:(k:Int)+1<n+1:=Oo);(have k2:0≤(k:Int)+1:=Oo);(have hrp:(List.replicate n ())[k]?=some ():=by rw [List.getElem?_replicate,if_pos hlt2]);have hsk:=HSE.o.2 (k+1) Oo;have c0:=HB.o.cellB hsk;by_cases hin:((k+1:Nat):Int)∈rs.flatten;{rw [decide_eq_true hin] at c0;exact Kbk}
      · rw [decide_eq_false hin] at c0
        have HE:=Zh (show Qte n rows rs cost k=some ((⟨#[115,116,111,112]⟩:ByteArray),(k:Int)+1,12) by
         unfold Qte;rw [Qcc hrp (c:=12) (by unfold misF;rw [if_neg hin])]
         rfl)
        have HBX:=HBX0;clear hrp hsk hin;(go_wp2_with fail);go_ret;unfold ChkP ErP;refine ⟨some ((⟨#[115,116,111,112]⟩:ByteArray),((k:Int)+1),12),HPC.o _ (Eq.symm (by first|exact HE.o|exact HJB.o.trans HE.o)),⟨_,rfl,⟨wr.heap.size,0,Qwf 12,rfl,?_,?_,?_,rfl⟩⟩,?_⟩;all_goals first|(refine Zb HBX.o ?_;exact Qag)|simp
   obtain ⟨b,o,A1,n1,c1,l,rfl,hl,hc,hr1,_,_⟩:=HRW.o.2.1.at_ hlt;have j1:=Qan _ _ _ _ hc;have hdr:rs.drop i=l::rs.drop (i+1):=by{rw [List.drop_eq_getElem_cons (Zs hl).1,(Zs hl).2]};(have HL:=Zh hl;have HDR:=Zh hdr;have i1:(i:Int)<rn:=Oo);(have i2:0≤(i:Int):=Oo);have HJG:=Zh (judge_ok wr dep cap lim A A1 (some ⟨td,0,none⟩) n c n1 c1 (n+1) tb st rows l (rs.take i).flatten bl HRW.o.1 HJK.o.ld hr1 HRW.o.2.2 HSQ.o Oo (by have:=hr1.1;have:=HSH.o l (Zm hl);omega) HB.o HSE.o);obtain ⟨jc,hjc⟩:∃ x,x=Qzt n cap lim rows st (rs.take i).flatten l:=⟨_,rfl⟩;rw [←hjc] at HJG;have HJC:=Zh hjc;obtain ⟨x0,x1,x2,x3⟩:=HJW.o.four;have p0:wr.cell? ⟨w.heap.size+1,0,none⟩=some (.slice (some ⟨b,o,none⟩) rn rc):=Zq HPW.o;clear hl hc hr1 hdr hjc;(go_wp2_with fail);(with_reducible refine HJG.o.mono ?_);unfold JdgP;rintro e w7 ⟨bl7,rfl,hb7,hs7,ha7⟩;have HB7:=Zh hb7;have HS7:=Zh hs7;have HA7:=Zh (HA.o.trans ha7);have HBX:=Zh (show Bw w w7 from HB5.o.trans (HA7.o.bel _ (fun b hb=>by have:=HB45.o.2;omega)));clear hb7 hs7 ha7 x0 x1 x2 x3 p0 j1 HJG;by_cases hz:jc=0
   · subst hz
     have HNX:=Zh (show Qkq n cap lim rows st rs cost i (rs.take i).flatten (rs.drop i)=Qkq n cap lim rows st rs cost (i+1) (rs.take (i+1)).flatten (rs.drop (i+1)) by
      rw [HDR.o,Qda HL.o];unfold Qkq
      conv=>lhs;unfold chkR
      rw [if_pos HJC.o.symm])
     have HSX:=Zh (show Qgf n bl7 (rs.take (i+1)).flatten by
      rw [Qda HL.o];have h0:=HJC.o;unfold Qzt at h0
      by_cases hne:l=[]
      · rw [if_pos hne] at h0;cases h0
      rw [if_neg hne] at h0;refine HS7.o hne ?_
      cases hst:Qhd n (rs.take i).flatten l with
      | none=>rfl
      | some x=>rw [hst] at h0;exact absurd h0.symm (Qyp hst))
     (go_wp2_with fail);go_roundw;(case rel=>exact ⟨i+1,bl7,Oo,by go_num,HB7.o,HSX.o,HA7.o,by rw [←HNX.o];exact HJB.o⟩);case measure=>simp [intOf];omega
   · have e1:(jc != 0)=true:=by simp [hz]
     have HE:=Zh (show Qkq n cap lim rows st rs cost i (rs.take i).flatten (rs.drop i)=some ((⟨#[114,111,117,116,101]⟩:ByteArray),(i:Int),jc) by
      rw [HDR.o];unfold Qkq chkR;rw [if_neg (by rw [←HJC.o];exact hz),←HJC.o])
     clear hz;(go_wp2_with fail);go_ret;unfold ChkP ErP;refine ⟨some ((⟨#[114,111,117,116,101]⟩:ByteArray),(i:Int),jc),HPC.o _ (Eq.symm (by first|exact HE.o|exact HJB.o.trans HE.o)),⟨_,rfl,⟨w7.heap.size,0,Qwf jc,rfl,?_,?_,?_,rfl⟩⟩,?_⟩;all_goals first|(refine Zb HBX.o ?_;exact Qag)|simp
theorem infoCV:(Tryz.prog.info? 139).map (fun i=>(i.zero,i.size,i.bytes))=some (some (.agg #[.int .i64 0,.int .i64 0,.int .i64 0]),3,24):=Kf
theorem infoCA:(Tryz.prog.info? 141).map (fun i=>(i.zero,i.size,i.bytes))=some (some (.agg #[.int .i64 0,.int .i64 0,.int .i64 0]),3,24):=Kf
structure LpS (g:Nat) (c3:Value) (w1 W:World) (i j:Nat) (V A:Oz) (cv ca:Nat):Prop where
 bel:Below g w1 W
 box:Blk W g 26 #[.slice V i cv,.slice A j ca,c3]
 v:Own W (g+1) 139 3 V i cv (Qbb (Qcq.vs.take i))
 a:Own W (g+1) 141 3 A j ca (Qbb (Qcq.ar.take j))
 d:∀ b,Qaa V=some b→Qaa A≠some b
theorem LpS.below {g i j cv ca:Nat}{c3:Value}{w1 W W':World}{V A:Oz}(h:LpS g c3 w1 W i j V A cv ca)(hb:Bw W W'):LpS g c3 w1 W' i j V A cv ca :=
 ⟨h.bel.trans (hb.mono (Nat.le_of_lt h.box.lt)),h.box.below hb h.box.lt,h.v.below hb,h.a.below hb,h.d⟩
theorem LpS.pushV {g i j cv ca c':Nat}{c3:Value}{w1 W W':World}{V A V':Oz}(h:LpS g c3 w1 W i j V A cv ca) (hg:W.grownBy W' (Qaa V)) (ho:Own W' (g+1) 139 3 V' (i+1) c' (Qbb (Qcq.vs.take (i+1)))) (hat:Qaa V'=Qaa V∨Qaa V'=some W.heap.size) :
 LpS g c3 w1 (W'.setCell ⟨g,0,none⟩ (.slice V' (i+1) c')) (i+1) j V' A c' ca:=by
 have hne:Qaa V≠some g:=fun e=>by have:=(h.v.lt g e).1;omega
 have hnA:Qaa A≠some g:=fun e=>by have:=(h.a.lt g e).1;omega
 have hnV:Qaa V'≠some g:=fun e=>by have:=(ho.lt g e).1;omega
 have hb:=h.box.grown hg hne;refine ⟨(Zo h.bel hg (h.v.mono (Nat.le_succ g)) (Nat.le_of_lt h.box.lt)).setCell Sn _,?_,ho.far (Qac _ _ _ _) (.inr hnV),(h.a.far hg ?_).far (Qac _ _ _ _) (.inr hnA),?_⟩;{have:=hb.set_ 0 (.slice V' (i+1) c');simpa using this}
 · cases hA:Qaa A with
   | none=>exact .inl rfl
   | some b=>exact .inr (fun e=>h.d b e.symm hA)
 {intro b hb hA;(rcases hat with e|e);{exact h.d b (by rw [←e];exact hb) hA};{have:=(h.a.lt b hA).2;rw [e] at hb;(injection hb with hb);omega}}
theorem LpS.pushA {g i j cv ca c':Nat}{c3:Value}{w1 W W':World}{V A A':Oz}(h:LpS g c3 w1 W i j V A cv ca) (hg:W.grownBy W' (Qaa A)) (ho:Own W' (g+1) 141 3 A' (j+1) c' (Qbb (Qcq.ar.take (j+1)))) (hat:Qaa A'=Qaa A∨Qaa A'=some W.heap.size) :
 LpS g c3 w1 (W'.setCell ⟨g,1,none⟩ (.slice A' (j+1) c')) i (j+1) V A' cv c':=by
 have hne:Qaa A≠some g:=fun e=>by have:=(h.a.lt g e).1;omega
 have hnV:Qaa V≠some g:=fun e=>by have:=(h.v.lt g e).1;omega
 have hnA:Qaa A'≠some g:=fun e=>by have:=(ho.lt g e).1;omega
 have hb:=h.box.grown hg hne;refine ⟨(Zo h.bel hg (h.a.mono (Nat.le_succ g)) (Nat.le_of_lt h.box.lt)).setCell Sn _,?_,(h.v.far hg ?_).far (Qac _ _ _ _) (.inr hnV),ho.far (Qac _ _ _ _) (.inr hnA),?_⟩;{have:=hb.set_ 1 (.slice A' (j+1) c');simpa using this}
 · cases hV:Qaa V with
   | none=>exact .inl rfl
   | some b=>exact .inr (fun e=>h.d b hV e.symm)
 {intro b hV hb;(rcases hat with e|e);{exact h.d b hV (by rw [←e];exact hb)};{have:=(h.v.lt b hV).2;rw [e] at hb;(injection hb with hb);omega}}
theorem lp_vs (i:Nat)(h:i<5):Qcq.vs[i]?=some ((i:Int),0,0):=by rcases (by omega:i=0∨i=1∨i=2∨i=3∨i=4) with rfl|rfl|rfl|rfl|rfl <;> rfl
theorem lp_ar (i:Nat)(h:i<5):Qcq.ar[i]?=some ((i:Int),((i:Int)+1).tmod 5,9):=by rcases (by omega:i=0∨i=1∨i=2∨i=3∨i=4) with rfl|rfl|rfl|rfl|rfl <;> rfl
theorem Rgj {l:List Tri}{i:Nat}{x:Tri} (h:l[i]?=some x):Qbb (l.take (i+1))=Qbb (l.take i) ++Qbb [x]:=by rw [List.take_add_one,h,←Qgb];rfl
def LopP (w:World)(r:Ending)(w':World):Prop :=
 (∃ (A B C Q:Oz) (a b c q:Nat),r=.returned (.tuple #[.agg #[.slice A 5 a,.slice B 5 b,.slice C 1 c],.agg #[.slice Q 1 q]])∧Qcp w' A B C 5 5 1 Qcq∧RdT w' Q 1 Qse)∧Bw w w'
theorem loop_ok (w:World):Calls prog 34 #[] w (LopP w):=by
 go_enter func34,ntmps34
 go_wp2_with fail
 (refine Qai ?_;intro w1 hw1);have HB1:=Zh (show Bw w w1 by rw [hw1];exact Qag);have HZ1:=Zh (show w1.heap.size=w.heap.size+1+1+1+1+1 by rw [hw1];simp);have HC0:=Zh (show Blk w1 w.heap.size 26 #[.slice none 0 0,.slice none 0 0,.slice none 0 0] by rw [hw1];exact Qbi);have HC1:=Zh (show Blk w1 (w.heap.size+1) 29 #[.slice none 0 0] by rw [hw1];exact Qbi);have HC2:=Zh (show Blk w1 (w.heap.size+1+1) 2 #[.int .i64 1] by rw [hw1];exact Qbi);have HC4:=Zh (show Blk w1 (w.heap.size+1+1+1) 137 #[.int .i64 1,.int .i64 1,.slice (some ⟨w.heap.size+1+1,0,none⟩) 1 1] by rw [hw1];exact Qbi);have hN:Blk w1 (w.heap.size+1+1+1+1) 26 #[.slice none 0 0,.slice none 0 0,.slice (some ⟨w.heap.size+1+1+1,0,none⟩) 1 1]:=by rw [hw1];exact Qbi
 have HST:=Zh (show LpS (w.heap.size+1+1+1+1) (.slice (some ⟨w.heap.size+1+1+1,0,none⟩) 1 1) w1 w1 0 0 none none 0 0 from ⟨Zr _ _,hN,Own.nil _ _ _ _,Own.nil _ _ _ _,fun b hb=>by cases hb⟩);clear hw1 hN;go_loopw [3] (fun q W=>∃ (i:Nat) (V A:Oz) (cv ca:Nat),i≤5∧q=.int .i64 i∧LpS (w.heap.size+1+1+1+1) (.slice (some ⟨w.heap.size+1+1+1,0,none⟩) 1 1) w1 W i i V A cv ca) (fun q _=>6-(intOf q).toNat)
 case atStart=>exact ⟨0,none,none,0,0,Oo,rfl,HST.o⟩
 case round =>
  obtain ⟨i,V,A,cv,ca,hi,rfl,hch⟩:=hrel;have HCH:=Zh hch;by_cases hlt:i<5
  rotate_left
  · (obtain rfl:i=5:=Oo);(clear hi hlt;have hbx:=hch.box;have x0:wr.cell? ⟨w.heap.size+1+1+1+1,0,none⟩=some (.slice V 5 cv):=Zq hbx;have x1:wr.cell? ⟨w.heap.size+1+1+1+1,1,none⟩=some (.slice A 5 ca):=Zq hbx;have x2:wr.cell? ⟨w.heap.size+1+1+1+1,2,none⟩=some (.slice (some ⟨w.heap.size+1+1+1,0,none⟩) 1 1):=Zq hbx;have hz1:=HZ1.o;have hzr:w.heap.size+1+1+1+1<wr.heap.size:=hbx.lt);have hC0:Blk wr w.heap.size 26 #[.slice none 0 0,.slice none 0 0,.slice none 0 0]:=HC0.o.below hch.bel Oo;have hC1:Blk wr (w.heap.size+1) 29 #[.slice none 0 0]:=HC1.o.below hch.bel Oo;have hC2:=HC2.o.below hch.bel Oo;have hC4:=HC4.o.below hch.bel Oo;obtain ⟨W6,hW6⟩:=Zx ((((wr.setCell ⟨w.heap.size,0,none⟩ (.slice V 5 cv)).setCell ⟨w.heap.size,1,none⟩ (.slice A 5 ca)).setCell ⟨w.heap.size,2,none⟩ (.slice (some ⟨w.heap.size+1+1+1,0,none⟩) 1 1)).setCell ⟨w.heap.size+1,0,none⟩ (.slice (some ⟨wr.heap.size+1,0,none⟩) 1 1));have hz6:W6.heap.size=wr.heap.size:=by rw [hW6];simp [World.setCell]
    have HC0':=Zh (show Blk W6 w.heap.size 26 #[.slice V 5 cv,.slice A 5 ca,.slice (some ⟨w.heap.size+1+1+1,0,none⟩) 1 1] by
     have h0:=((hC0.set_ 0 (.slice V 5 cv)).set_ 1 (.slice A 5 ca)).set_ 2 (.slice (some ⟨w.heap.size+1+1+1,0,none⟩) 1 1);rw [hW6];refine Blk.far_ (by simpa using h0) ?_ _;omega)
    have HC1':=Zh (show Blk W6 (w.heap.size+1) 29 #[.slice (some ⟨wr.heap.size+1,0,none⟩) 1 1] by
     have h1:Blk (((wr.setCell ⟨w.heap.size,0,none⟩ (.slice V 5 cv)).setCell ⟨w.heap.size,1,none⟩ (.slice A 5 ca)).setCell ⟨w.heap.size,2,none⟩ (.slice (some ⟨w.heap.size+1+1+1,0,none⟩) 1 1)) (w.heap.size+1) 29 #[.slice none 0 0]:=Blk.far_ (Blk.far_ (Blk.far_ hC1 Oo _) Oo _) Oo _;rw [hW6]
     simpa using h1.set_ 0 (.slice (some ⟨wr.heap.size+1,0,none⟩) 1 1))
    have HC2':=Zh (show Blk W6 (w.heap.size+1+1) 2 #[.int .i64 1] by rw [hW6];exact Blk.far_ (Blk.far_ (Blk.far_ (Blk.far_ hC2 Oo _) Oo _) Oo _) Oo _);have HC4':=Zh (show Blk W6 (w.heap.size+1+1+1) 137 #[.int .i64 1,.int .i64 1,.slice (some ⟨w.heap.size+1+1,0,none⟩) 1 1] by rw [hW6];exact Blk.far_ (Blk.far_ (Blk.far_ (Blk.far_ hC4 Oo _) Oo _) Oo _) Oo _);have hfar:∀ {e:TypeId} {B:Oz} {n c:Nat} {xs:List Value},Own wr (w.heap.size+1+1+1+1+1) e 3 B n c xs→Own W6 (w.heap.size+1+1+1+1+1) e 3 B n c xs:=fun h1=>by{rw [hW6];exact (((h1.far (Qac _ w.heap.size 0 (.slice V 5 cv)) (.inr (h1.ne Oo))).far (Qac _ w.heap.size 1 (.slice A 5 ca)) (.inr (h1.ne Oo))).far (Qac _ w.heap.size 2 (.slice (some ⟨w.heap.size+1+1+1,0,none⟩) 1 1)) (.inr (h1.ne Oo))).far (Qac _ (w.heap.size+1) 0 (.slice (some ⟨wr.heap.size+1,0,none⟩) 1 1)) (.inr (h1.ne Oo))};have HV:=Zh (show Rd3 W6 V 5 Qcq.vs from (hfar hch.v).rds.rd3);have HA:=Zh (show Rd3 W6 A 5 Qcq.ar from (hfar hch.a).rds.rd3);have hbr:Bw w wr:=HB1.o.trans (hch.bel.mono Oo);have HB6:=Zh (show Bw w W6 by rw [hW6];exact ((((hbr.setCell Sn _).setCell Sn _).setCell Sn _).setCell Sn _));have HW6:=Zh hW6;have HZ6:=Zh hz6;obtain ⟨k0,k1,k2⟩:=hC0.three;have fk0:=hC0.frozen 0;have fk1:=hC0.frozen 1;have fk2:=hC0.frozen 2;have p0:=hC1.cell 0;simp only [Yo,Yn] at p0;have fp0:=hC1.frozen 0;have kl:=hC0.lt;have pl:=hC1.lt;have xl:=hbx.lt;clear hch hbx hC0 hC1 hC2 hC4 hW6 hz6 hbr hfar;(go_wp2_with fail);rw [←HW6.o];(refine Qce ?_;intro Wf hWf);(have hbf:Bw W6 Wf:=by rw [hWf];exact Qag);(have h1:Blk Wf wr.heap.size 3 #[.int .i64 0,.int .i64 0,.int .i64 1,.int .i64 1,.int .i64 1]:=by rw [hWf,←HZ6.o];exact Qbi);(have h2:Blk Wf (wr.heap.size+1) 64 #[.slice (some ⟨wr.heap.size,0,none⟩) 5 5]:=by rw [hWf,←HZ6.o];exact Qbi);have hB0:=HC0'.o.below hbf HC0'.o.lt;have hB1:=HC1'.o.below hbf HC1'.o.lt;have h3:=HC2'.o.below hbf HC2'.o.lt;have h4:=HC4'.o.below hbf HC4'.o.lt;obtain ⟨c0,c1,c2⟩:=hB0.three;have d0:=hB1.cell 0;simp only [Yo,Yn] at d0
    have HVf:=Zh (show Qcp Wf V A (some ⟨w.heap.size+1+1+1,0,none⟩) 5 5 1 Qcq from by
     refine ⟨HV.o.below hbf,HA.o.below hbf,rfl,fun i t ht=>⟨w.heap.size+1+1+1,0,rfl,?_⟩⟩
     match i,ht with
     | 0,ht =>
      cases ht
      exact ⟨Zq h4,Zq h4,some ⟨w.heap.size+1+1,0,none⟩,1,1,Zq h4,Rds.rdI (l:=[1]) (h3.rds rfl),Zn _,Oo⟩
     | k+1,ht=>simp [Qcq] at ht)
    have HTf:=Zh (show RdT Wf (some ⟨wr.heap.size+1,0,none⟩) 1 Qse from by
     refine ⟨rfl,fun i l hl=>?_⟩
     match i,hl with
     | 0,hl =>
      cases hl
      exact ⟨wr.heap.size+1,0,some ⟨wr.heap.size,0,none⟩,5,5,rfl,Zq h2,Rds.rdI (l:=[0,0,1,1,1]) (h1.rds rfl),Zn _,Oo⟩
     | k+1,hl=>simp [Qse] at hl)
    have HBf:=Zh (Zb HB6.o hbf);refine bodyPost_ret (v:=.tuple #[.agg #[.slice V 5 cv,.slice A 5 ca,.slice (some ⟨w.heap.size+1+1+1,0,none⟩) 1 1],.agg #[.slice (some ⟨wr.heap.size+1,0,none⟩) 1 1]]) (by simp [results,results34,go_sem,c0,c1,c2,d0]) rfl ?_;unfold LopP;exact ⟨⟨_,_,_,_,_,_,_,_,rfl,HVf.o,HTf.o⟩,HBf.o⟩
  have HTV:=Zh (Rgj (lp_vs i hlt));have HTA:=Zh (Rgj (lp_ar i hlt));obtain ⟨rm,hrm⟩:∃ x,x=((i:Int)+1).tmod 5:=⟨_,rfl⟩;rw [←hrm] at HTA;have hrm2:((i:Int)+1).tmod 5=rm:=hrm.symm;have hrmb:0≤rm∧rm<5:=by{rw [hrm,Int.tmod_eq_emod_of_nonneg Oo];omega};have hrw:IntKind.i64.wrap rm=rm:=IntWalk.i64_in _ Oo;have hiw:IntKind.i64.wrap ((i:Int)+1)=(i:Int)+1:=IntWalk.i64_in _ Oo;obtain ⟨x0,x1,x2⟩:=hch.box.three;have xl:=hch.box.lt;obtain ⟨W3,hW3⟩:=Zx (wr.alloc (.cells #[.int .i64 (i:Int),.int .i64 0,.int .i64 0] 139));have hb3:Bw wr W3:=by rw [hW3];exact Qag
  have HC3:=Zh (hch.below hb3);have hrd:Rds W3 3 (some ⟨wr.heap.size,0,none⟩) 1 (Qbb [((i:Int),0,0)]):=by rw [hW3];exact (Blk.new wr 139 #[.int .i64 (i:Int),.int .i64 0,.int .i64 0]).rds rfl
  have hown:=HC3.o.v;have hsz:w.heap.size+1+1+1+1+1≤W3.heap.size:=HC3.o.box.lt;have HW3:=Zh hW3;clear hch hb3 hW3 hrm;go_wp2_with (at_builtin;rw [←HW3.o];with_reducible refine Qam rfl (.tmp 13) (.tmp 16) 22 rfl 139 _ 3 24 infoCV underlying22 rfl Oo rfl rfl hown hrd (Qij _) Oo Oo hsz ?_)
  intro V' c' w4 ho4 hg4 hat4;have hB4:=HC3.o.box.grown hg4 (hown.ne Oo);clear x0 x1 x2 xl;obtain ⟨x0,x1,x2⟩:=hB4.three;have fx0:=hB4.frozen 0;have fx1:=hB4.frozen 1;have HS4:=Zh (HC3.o.pushV hg4 (by rw [HTV.o];exact ho4) hat4);obtain ⟨W4,hW4⟩:=Zx (w4.setCell ⟨w.heap.size+1+1+1+1,0,none⟩ (.slice V' (i+1) c'));rw [←hW4] at HS4;have HW4:=Zh hW4;clear hown hrd hsz ho4 hg4 hat4 hB4 HC3 hW4;have x4l:w.heap.size+1+1+1+1<w4.heap.size:=by have:=HS4.o.box.lt;rw [HW4.o] at this;simpa [World.setCell] using this
  have hz4:W4.heap.size=w4.heap.size:=by rw [HW4.o];simp [World.setCell]
  obtain ⟨W5,hW5⟩:=Zx (W4.alloc (.cells #[.int .i64 (i:Int),.int .i64 rm,.int .i64 9] 141));have hb5:Bw W4 W5:=by rw [hW5];exact Qag
  have HC5:=Zh (HS4.o.below hb5);have hrd:Rds W5 3 (some ⟨w4.heap.size,0,none⟩) 1 (Qbb [((i:Int),rm,9)]):=by rw [hW5,←hz4];exact (Blk.new W4 141 #[.int .i64 (i:Int),.int .i64 rm,.int .i64 9]).rds rfl
  have hown:=HC5.o.a;have hsz:w.heap.size+1+1+1+1+1≤W5.heap.size:=HC5.o.box.lt;have HW5:=Zh hW5;clear hb5 hW5 hz4;go_wp2_with (at_builtin;rw [←HW4.o,←HW5.o];with_reducible refine Qam rfl (.tmp 20) (.tmp 26) 23 rfl 141 _ 3 24 infoCA underlying23 rfl Oo rfl rfl hown hrd (Qij _) Oo Oo hsz ?_)
  intro A' d' w6 ho6 hg6 hat6;have hB6:=HC5.o.box.grown hg6 (hown.ne Oo);obtain ⟨y0,y1,y2⟩:=hB6.three;have fy1:=hB6.frozen 1;have HS6:=Zh (HC5.o.pushA hg6 (by rw [HTA.o];exact ho6) hat6);clear hown hrd hsz ho6 hg6 hat6 hB6 HC5 x0 x1 x2 fx0 fx1 x4l;go_wp2_with fail
  go_roundw;case rel=>exact ⟨i+1,V',A',c',d',Oo,by go_num,HS6.o⟩
  case measure=>simp [intOf];omega
