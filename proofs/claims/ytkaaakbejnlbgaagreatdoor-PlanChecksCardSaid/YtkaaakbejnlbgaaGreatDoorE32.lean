/- Qbl of the proof: ReM. -/
import Derived.Test.YtkaaakbejnlbgaaGreatDoorE27
import Derived.Test.YtkaaakbejnlbgaaGreatDoorE31
set_option maxHeartbeats 4000000
namespace Go.Proofs.YtkaaakbejnlbgaaGreatDoor
open Go.RowKit Go.Proofs.Tryz
attribute [local go_sem ↓] Go.wp_at_zero Go.wp_at_succ
theorem Rdj.frm {N:Qak}{s:Nat}{dl:Iz}(hok:Qar N)(hs:s<N.ar.length)(h:Rdj N s dl)(hl:dl.length=N.ar.length):FrmP N s dl :=
 ⟨hl,fun t ht=>by
  obtain ⟨v,hv⟩:∃ v,dl[t]?=some v:=⟨_,Zg Oo⟩;exact ⟨v,hv,.inl ⟨Oo,Oo,h.dist hok hv⟩⟩⟩
def FrmO (w:World)(N:Qak)(m:Nat)(s:Int)(r:Ending)(w':World):Prop:=(∃ (D:Nat) (dl:Iz),r=.returned (.slice (some ⟨D,0,none⟩) m m)∧Blk w' D 2 (Qbr dl)∧FrmP N s dl)∧Bw w w'
theorem Qyh (A B C NX TX:Oz)(n m k c d e cx ct:Nat)(s:Int)(N:Qak)(w:World)(h:Qcp w A B C n m k N)(hok:Qar N) (hnx:RdT w NX m (Qqq N)) (htx:RdT w TX m (Qqy N)) :
 Calls prog 61 #[.agg #[.slice A n c,.slice B m d,.slice C k e,.slice NX m cx,.slice TX m ct],.int .i64 s] w (FrmO w N m s):=by
 have hlm:N.ar.length=m:=h.2.1.1;have hm:m≤16384:=by rw [←hlm];exact hok.la
 by_cases hs:0≤s∧s<m
 {obtain ⟨sn,rfl⟩:∃ sn:Nat,s=sn:=⟨s.toNat,Oo⟩;refine (Rco A B C NX TX n m k c d e cx ct sn N w h hok hnx htx Oo).mono ?_;rintro r w' ⟨⟨D,dl,h1,h2,h3,h4⟩,h5⟩;exact ⟨⟨D,dl,h1,h2,h4.frm hok Oo Oo⟩,h5⟩};have HFN:=Zh (Qzk (N:=N) (s:=s) (.inl (by rw [hlm];exact hs)));have HLM:=Zh hlm;clear h hok hnx htx hlm;go_enter func61,ntmps61
 go_wp2_with fail
 (refine Qab ?_;intro w1 hw1);have hb1:Bw w w1:=by rw [hw1];exact Qag
 have hX1:Blk w1 w.heap.size 129 #[.slice A n c,.slice B m d,.slice C k e,.slice NX m cx,.slice TX m ct]:=by rw [hw1];refine Blk.new' _ _ _ ?_;rfl
 clear hw1;with_reducible refine (Rag m w1 Oo).mono ?_
 rintro r w2 ⟨rfl,hD2,hb2⟩;have hX2:=hX1.below hb2 hX1.lt;have x0:w2.cell? ⟨w.heap.size,0,none⟩=some (.slice A n c):=Zq hX2;have x1:w2.cell? ⟨w.heap.size,1,none⟩=some (.slice B m d):=Zq hX2;have x2:w2.cell? ⟨w.heap.size,2,none⟩=some (.slice C k e):=Zq hX2;have HD2:=Zh hD2;have HB2:=Zh (Zb hb1 hb2);clear hX1 hX2 hb1 hb2 hD2;go_wp2_with fail
 with_reducible refine (Qos A B C n m k c d e s w2 hs).mono ?_
 rintro r w3 ⟨rfl,hb3⟩;clear x0 x1 x2;go_wp2_with fail
 go_ret;exact ⟨⟨_,_,rfl,HD2.o.below hb3 HD2.o.lt,by rw [HLM.o] at HFN;exact HFN.o⟩,Zb HB2.o hb3⟩
def RmlP (w:World)(N:Qak)(np:Nat)(pts:Iz)(r:Ending)(w':World):Prop:=(∃ A' c' ls,r=.returned (.slice A' np c')∧RdT w' A' np ls∧Qpl N pts ls)∧Bw w w'
theorem Qjh (A B C PA:Oz)(n m k c d e np cp:Nat)(N:Qak)(pts:Iz)(w:World)(h:Qcp w A B C n m k N)(hok:Qar N)(hp:RdI w PA np pts)(hnp:np≤1000) :
 Calls prog 26 #[.agg #[.slice A n c,.slice B m d,.slice C k e],.slice PA np cp] w (RmlP w N np pts):=by
 have hlm:N.ar.length=m:=h.2.1.1;have hm:m≤16384:=by rw [←hlm];exact hok.la
 have HOF:=Zh (fun V (hV:Bw w V)=>Rcn A B C n m k c d e N V (h.below hV) hok);have HFR:=Zh (fun V NX TX cx ct s (hV:Bw w V) hnx htx=>Qyh A B C NX TX n m k c d e cx ct s N V (h.below hV) hok hnx htx);have HP:=Zh hp;have HPL:=Zh hp.1;have HLM:=Zh hlm;clear h hok hp hlm;go_enter func26,ntmps26
 go_wp2_with fail
 (refine Qab ?_;intro w1 hw1);have hb1:Bw w w1:=by rw [hw1];exact Qag
 have hX1:Blk w1 w.heap.size 26 #[.slice A n c,.slice B m d,.slice C k e]:=by rw [hw1];exact Qbi
 have HX1:=Zh hX1;clear hw1;with_reducible refine (HOF.o w1 hb1).mono ?_
 rintro r w2 ⟨NX,cx,TX,cx2,rfl,hnx,htx,hb2⟩;have HNX:=Zh hnx;have HTX:=Zh htx;have HB2:=Zh (Zb hb1 hb2);have HX2:=Zh (hX1.below hb2 hX1.lt);clear hb1 hb2 hnx htx HOF hX1 HX1;go_wp2_with fail
 (refine Qai ?_;intro w3 hw3);have hb3:Below w2.heap.size w2 w3:=by rw [hw3];exact Qag
 obtain ⟨rb,hrb⟩:=Zx w2.heap.size
 have HRB:=Zh (show Blk w3 rb 129 #[.slice A n c,.slice B m d,.slice C k e,.slice NX m cx,.slice TX m cx2] by
  rw [hw3,hrb];exact Blk.new _ _ _)
 have HX3:=Zh (HX2.o.below hb3 HX2.o.lt);have HB3:=Zh (Zb HB2.o hb3);have HNX3:=Zh (HNX.o.below hb3);have HTX3:=Zh (HTX.o.below hb3);rw [←hrb];clear hw3 hb3 hrb HX2 HNX HTX HB2;go_loopw [6,7] (fun z q W=>∃ (i:Nat) (A6:Oz) (c6:Nat) (xs:List Value) (rows:Lz),i≤np∧q=.int .i64 i∧z=.slice A6 i c6∧RwO W w3.heap.size 37 A6 i c6 xs rows∧ModI N pts i rows∧Bw w3 W) (fun _ q _=>np-(intOf q).toNat)
 case atStart=>exact ⟨0,none,0,[],[],Nat.zero_le _,rfl,rfl,RwO.nil _ _ _,⟨rfl,fun k s hk=>by omega⟩,Zr _ _⟩
 case round =>
  obtain ⟨i,A6,c6,xs,rows,hi,rfl,rfl,hrw,hmi,hbl⟩:=hrel;have HRW:=Zh hrw;have HMI:=Zh hmi;have HBL:=Zh hbl;clear hrw hmi hbl;by_cases hlt:i<np
  rotate_left;{(obtain rfl:i=np:=Oo);(have i1:¬(i:Int)<i:=Oo);have HMT:=Zh (show Qpl N pts rows from ⟨by rw [HMI.o.1,HPL.o],fun k s hk=>HMI.o.2 k s (by have:=(Zs hk).1;have:=HPL.o;omega) hk⟩);(go_wp2_with fail);go_ret;exact ⟨⟨A6,c6,rows,rfl,HRW.o.rdT,HMT.o⟩,Zb HB3.o HBL.o⟩};obtain ⟨pb,po,s,rfl,hs,cs⟩:=HP.o.at_ hlt;have HS:=Zh hs;have i1:(i:Int)<np:=Oo
  have i2:0≤(i:Int):=Oo
  have HSX:=Zh (show ∀ V,Bw wr V→V.cell? ⟨rb,0,none⟩=some (.slice A n c)∧V.cell? ⟨rb,1,none⟩=some (.slice B m d)∧V.cell? ⟨rb,2,none⟩=some (.slice C k e)∧V.cell? ⟨rb,3,none⟩=some (.slice NX m cx)∧V.cell? ⟨rb,4,none⟩=some (.slice TX m cx2)∧V.cell? ⟨pb,po+i,none⟩=some (.int .i64 s) from fun V hV=>by
   have hJ:=HRB.o.below (Zb HBL.o hV) HRB.o.lt;exact ⟨Zq hJ,Zq hJ,Zq hJ,Zq hJ,Zq hJ,Zc (Zb HB3.o (Zb HBL.o hV)) (Zn _) cs⟩)
  clear hs cs;go_wp2_with fail
  refine wp_region_held_drew (S:=fun V=>Bw wr V) Kf (Zr _ _).drew (fun _=>?_);refine tzd 0 20 ?_;refine tz 4 24 ?_;refine Zk 5 (fun K hK=>?_);go_simp;with_reducible refine (HFR.o _ NX TX cx cx2 s (Zb HB3.o (Zb HBL.o (Zr _ _).drew)) (HNX3.o.below (Zb HBL.o (Zr _ _).drew)) (HTX3.o.below (Zb HBL.o (Zr _ _).drew))).mono ?_
  rintro r w6 ⟨⟨D,dl,rfl,hD,hfp⟩,hb6⟩;have hb6':Bw wr w6:=(Zr _ _).drew.trans hb6;go_simp;refine hK.out _ _ hb6' (fun _=>?_);clear hK K;refine tz 6 8 ?_;refine Zd ?_;have HD:=Zh hD;have HFP:=Zh hfp;have HRW6:=Zh (HRW.o.below hb6');have HB6:=Zh (Zb HBL.o hb6');clear hb6 hb6' hD hfp HSX HRW HBL HFR;go_wp2_with fail
  go_loopw [9,10] (fun z q W=>∃ (j:Nat) (A9:Oz) (c9:Nat) (row:Iz),j≤np∧q=.int .i64 j∧z=.slice A9 j c9∧Own W w6.heap.size 2 1 A9 j c9 (Qae row)∧Qtc N (pts.take j) s row∧Bw w6 W) (fun _ q _=>np-(intOf q).toNat)
  case atStart=>exact ⟨0,none,0,[],Nat.zero_le _,rfl,rfl,Own.nil _ _ _ _,⟨rfl,fun i t h=>by simp at h⟩,Zr _ _⟩
  case round =>
   obtain ⟨j,A9,c9,row,hj,rfl,rfl,hown,hmr,hbb⟩:=hrel;have HO:=Zh hown;have HMR:=Zh hmr;have HBB:=Zh hbb;clear hown hmr hbb;(by_cases hlt2:j<np);rotate_left
   · (obtain rfl:j=np:=Oo);(have j2:¬(j:Int)<j:=Oo);have HMR2:=Zh (show Qtc N pts s row by have h:=HMR.o;rwa [Ye (by rw [HPL.o];exact Zn _)] at h);(have HRWr:=Zh (HRW6.o.below HBB.o);have HBr:=Zh (Zb HB6.o HBB.o);clear hlt2 hj;obtain ⟨W2,hW2⟩:=Zx (wr.alloc (.cells #[.slice A9 j c9] 37));have hb2:Bw wr W2:=by rw [hW2];exact Qag);(have hrd:Rds W2 1 (some ⟨wr.heap.size,0,none⟩) 1 [.slice A9 j c9]:=by rw [hW2];exact (Blk.new wr 37 #[.slice A9 j c9]).rds rfl);have hr2:=HRWr.o.below hb2;have hown:=hr2.1;have hsz:w3.heap.size≤W2.heap.size:=Yx HBr.o.size hb2.size;have hO2:=HO.o.below hb2;have HW2:=Zh hW2;have HB2:=Zh (Zb HBr.o hb2);clear hW2 hb2;(go_wp2_with (at_builtin;rw [←HW2.o];with_reducible refine Qam rfl (.tmp 49) (.tmp 51) 71 rfl 37 _ 1 24 Rfp underlying71 rfl Oo rfl rfl hown hrd (Qch _ _ _) Oo Oo hsz ?_));intro A3 c3 w8 ho8 hg8 hat8;have hb8:=Zo HB2.o hg8 hown hsz
     have HR8:=Zh (hr2.push ho8 hg8 hat8 hO2.rds.rdI (fun g e=>by
      have:=hO2.lt g e;exact ⟨this.2,fun e2=>by have:=HRW6.o.1.lt g e2;omega⟩) hO2.cap hO2.capMax)
     have HM8:=Zh (HMI.o.snoc HS.o HMR2.o);have HB9:=Zh hb8;clear hr2 hown hrd hsz ho8 hg8 hat8 hb8 hO2;(go_wp2_with fail);go_roundw;(case rel=>exact ⟨i+1,A3,c3,_,_,Oo,by go_num,rfl,HR8.o,HM8.o,HB9.o⟩);case measure=>simp [intOf];omega
   obtain ⟨b1,o1,t,e0,hpt,hct⟩:=HP.o.at_ hlt2;cases e0;(have HPT:=Zh hpt;have j2:(j:Int)<np:=Oo);have j3:0≤(j:Int):=Oo
   have HSX:=Zh (show ∀ V,Bw wr V→V.cell? ⟨w.heap.size,0,none⟩=some (.slice A n c)∧V.cell? ⟨w.heap.size,1,none⟩=some (.slice B m d)∧V.cell? ⟨w.heap.size,2,none⟩=some (.slice C k e)∧V.cell? ⟨pb,po+j,none⟩=some (.int .i64 t) from fun V hV=>by
    have hJ:=HX3.o.below (Zb HB6.o (Zb HBB.o hV)) HX3.o.lt;exact ⟨Zq hJ,Zq hJ,Zq hJ,Zc (Zb HB3.o (Zb HB6.o (Zb HBB.o hV))) (Zn _) hct⟩)
   clear hpt hct;(by_cases hin:0≤t∧t<(m:Int));rotate_left;{have HMC:=Zh (HMR.o.snoc HPT.o (.inr ⟨fun h=>hin ⟨h.2.1,by rw [←HLM.o];exact h.2.2⟩,rfl⟩));have HTH:=Zh (fun V=>Qos A B C n m k c d e t V hin);clear hin;(go_wp2_with fail);(refine wp_region_held_drew (S:=fun V=>Bw wr V) Kf (Zr _ _).drew (fun _=>?_);refine tzd 0 32 ?_;refine tz 4 36 ?_;refine Zk 5 (fun K hK=>?_);go_simp;with_reducible refine (HTH.o _).mono ?_);(rintro r w7 ⟨rfl,hb7⟩;have hb7':Bw wr w7:=(Zr _ _).drew.trans hb7;go_simp;refine hK.out _ _ hb7' (fun _=>?_);clear hK K;refine Zd ?_;have HO7:=Zh (HO.o.below hb7');have HB7:=Zh (Zb HBB.o hb7');clear hb7 hb7' HSX HTH HO HBB;obtain ⟨W2,hW2⟩:=Zx (w7.alloc (.cells #[.int .i64 1152921504606846976] 2));have hb2:Bw w7 W2:=by rw [hW2];exact Qag);(have hrd:Rds W2 1 (some ⟨w7.heap.size,0,none⟩) 1 (Qae [1152921504606846976]):=by rw [hW2];exact (Blk.new w7 2 #[.int .i64 1152921504606846976]).rds rfl);have hown:=HO7.o.below hb2;have hsz:w6.heap.size≤W2.heap.size:=Yx HB7.o.size hb2.size;have HW2:=Zh hW2;have HB8:=Zh (Zb HB7.o hb2);clear hW2 hb2;(go_wp2_with (at_builtin;rw [←HW2.o];with_reducible refine Qam rfl (.tmp 45) (.tmp 47) 37 rfl 2 _ 1 8 Qnw underlying37 rfl Oo rfl rfl hown hrd (Qaq _) Oo Oo hsz ?_));intro A3 c3 w8 ho8 hg8 _;have hb8:=Zo HB8.o hg8 hown hsz;have HO8:=Zh (show Own w8 w6.heap.size 2 1 A3 (j+1) c3 (Qae (row ++[1152921504606846976])) by rw [Qbq];exact ho8);exact Kcf};(obtain ⟨tn,rfl⟩:∃ tn:Nat,t=tn:=⟨t.toNat,Oo⟩;have hi0:0≤(tn:Int):=Oo);(have hi1:(tn:Int)<m:=hin.2);have HTH:=Zh (fun V=>Qot A B C n m k c d e (tn:Int) V hi0 hi1);obtain ⟨v,hv,hmc⟩:=HFP.o.2 tn (by rw [HLM.o];omega);have HV:=Zh hv;have HMC:=Zh (HMR.o.snoc HPT.o hmc);clear hin hv hmc;(go_wp2_with fail);(refine wp_region_held_drew (S:=fun V=>Bw wr V) Kf (Zr _ _).drew (fun _=>?_);refine tzd 0 32 ?_;refine tz 4 36 ?_;refine Zk 5 (fun K hK=>?_);go_simp;with_reducible refine (HTH.o _).mono ?_);(rintro r w7 ⟨rfl,hb7⟩;have hb7':Bw wr w7:=(Zr _ _).drew.trans hb7;go_simp;refine hK.out _ _ hb7' (fun _=>?_);clear hK K;refine Zd ?_;have HO7:=Zh (HO.o.below hb7');have HB7:=Zh (Zb HBB.o hb7');obtain ⟨_,_,_,hpc⟩:=HSX.o w7 hb7';have hdc:=(HD.o.below HB7.o HD.o.lt).cellI HV.o;clear hb7 hb7' HSX HTH HO HBB;obtain ⟨W2,hW2⟩:=Zx (w7.alloc (.cells #[.int .i64 v] 2));have hb2:Bw w7 W2:=by rw [hW2];exact Qag);(have hrd:Rds W2 1 (some ⟨w7.heap.size,0,none⟩) 1 (Qae [v]):=by rw [hW2];exact (Blk.new w7 2 #[.int .i64 v]).rds rfl);have hown:=HO7.o.below hb2;have hsz:w6.heap.size≤W2.heap.size:=Yx HB7.o.size hb2.size;have HW2:=Zh hW2;have HB8:=Zh (Zb HB7.o hb2);clear hW2 hb2;(go_wp2_with (at_builtin;rw [←HW2.o];with_reducible refine Qam rfl (.tmp 45) (.tmp 47) 37 rfl 2 _ 1 8 Qnw underlying37 rfl Oo rfl rfl hown hrd (Qaq _) Oo Oo hsz ?_));intro A3 c3 w8 ho8 hg8 _;have hb8:=Zo HB8.o hg8 hown hsz;have HO8:=Zh (show Own w8 w6.heap.size 2 1 A3 (j+1) c3 (Qae (row ++[v])) by rw [Qbq];exact ho8);exact Kcf
