/- Qbl of the proof: Voc, Err, As, App. -/
import Derived.Test.YtkaaakbejnlbgaaGreatDoorProg
import Derived.WalkKit
import Derived.Lib.Hide
import Derived.Deep.AppendLies
import Derived.Deep.Draws
import Derived.Laws.OwnMore
import Derived.LaidEql
import Derived.Stop.Asserts
import Derived.RowKitTokens
import Derived.Lib.IfaceEq
import Derived.Stop.IfaceNil
import Derived.Maps.AppendAt
import Derived.RegionTactic
import Derived.OwnWalk
import Derived.BigQuiet
import Derived.Deep.QuietTactic
import Derived.Deep.RegionHeld3
set_option maxHeartbeats 4000000
set_option maxRecDepth 100000
namespace Go.Proofs.YtkaaakbejnlbgaaGreatDoor
open Go.RowKit Go.Proofs.Tryz
theorem Sm {p:Prop}(h:p:=by simp):p:=h
theorem Sn {p:Prop}(h:p:=by simp only;omega):p:=h
theorem Sd {p:Prop}(h:p:=by decide):p:=h
theorem Kf {p:Prop}(h:p:=by kernel_rfl):p:=h
structure Hd (p:Prop):Prop where
 o:p
theorem Hd.out {p:Prop}(h:Hd p):p:=h.o
theorem Zh {p:Prop}(h:p):Hd p:=⟨h⟩
theorem Oo {p:Prop}(h:p:=by omega):p:=h
abbrev Bw (w w':World):Prop:=Below w.heap.size w w'
abbrev Lz:=List (List Int)
abbrev Iz:=List Int
abbrev Pz:=List (Int×Int)
abbrev Oz:=Option Addr
theorem Kaa {p:Prop} (h:p:=by
 rintro e w' ⟨rfl,rfl⟩;go_wp2_with fail
 with_reducible refine (HLV.out w8 (HW8.out.a.qr.le (Qan _ _)) pb HW8.out.a.pl.r k xk HXK.out).mono ?_
 rintro e w9 ⟨rfl,hb9⟩;have HW9:=Zh (HW8.out.below hb9);have hcl:=Qht (dn.set k true);rw [Yq,HIr.out.ld] at hcl;have hnn:=HW9.o.nn;have HNO:=Zh (HNX.out w9 GC n k f xk HW9.o.a.qr HW9.o.a.nb.1.1 HW9.o.a.mq Oo HW9.o.a.mc HXK.out (HTK.out [] []).2);clear hb9 hcl hnn HW8;go_wp2_with fail
 with_reducible refine HNO.o.mono ?_
 rintro e w10 ⟨O,C,nO,cO,cC',n',os,cs,f',rfl,hnp,hO,hC,hmq,hn',hmc,hx,hnO⟩;have HNN:=Zh (show n'≤n0+(dn.set k true).countP (fun b=>b) by have:=HWr.out.nn;rw [Qcz HKL.out HDK.out];omega);have HW10:=Zh (HW9.o.nxt hx hmq hmc HNN.o);have HJ10:=Zh (HTK.out os cs).1;obtain ⟨GG,hGG⟩:=Zx (G2 GC w9 w10)
 have HGS:=Zh (show ∀ b,GG b→G b∨w.heap.size≤b from fun b hb=>by
  rw [hGG] at hb;exact hb.elim (HSB.out b) (fun h=>.inr (Yx HW9.o.nx.size h.1)))
 rw [←hGG] at HW10 hO hC;have HO:=Zh hO;have HC:=Zh hC;have HNP:=Zh hnp;clear hGG hO hC hnp hmq hn' hmc hx HNO HTK HW9;go_wp2_with fail
 obtain ⟨wi,hwi⟩:=Zx w10;subst hwi;go_loopw [130] (fun ui V=>∃ (i:Nat) (hp2:Nat→Option Int),i≤nO∧ui=.int .i64 i∧MRW w V GG qb g o N ls TA nt ct tl CA NC cC cl Q L cq mb pb wb rb db gh na n0 n' f' av ks (Qmi tl (upD dnf k z)) (dn.set k true) hp2∧MJ N ls av s na k z os cs i (upD dnf k z) hp2 (dn.set k true)∧Le (msk wi GG) (msk V GG)) (fun ui _=>nO-(intOf ui).toNat)
 case atStart=>exact ⟨0,_,Nat.zero_le _,rfl,HW10.o,HJ10.o,fun _ _ h=>h⟩
 case round =>
  clear HW10 HJ10;obtain ⟨i,hp2,hin,rfl,hw,hj,hle⟩:=hrel;have HWi:=Zh hw;have HJi:=Zh hj;have HLi:=Zh hle;clear hw hj hle;by_cases hlt:i<nO
  rotate_left;{(obtain rfl:i=nO:=Oo);(have j2:¬((i:Int)<i):=Oo);have HIN:=Zh (HJi.o.all HNP.o (by rw [HO.o.1];exact Zn _));(go_wp2_with fail);go_roundw;(case rel=>exact ⟨GG,n',f',_,hp2,_,by first|rfl|rw [HLX.out],HWi.o,HIN.o,HGS.o⟩);case measure =>rw [Qhu HWi.o.a.dd,Qhu HWr.out.a.dd,Qcz HKL.out HDK.out];have h1:=Qht (dn.set k true);rw [Qcz HKL.out HDK.out,Yq,HIr.out.ld] at h1;omega};obtain ⟨ob,oo,zb,rfl,hzb,cO1⟩:=((HO.o.le HLi.o).le (Qan _ _)).at_ hlt;obtain ⟨pc,po,v,rfl,hv,cC1⟩:=((HC.o.le HLi.o).le (Qan _ _)).at_ hlt;obtain ⟨b,y,rfl,hy,hv0,hv9,hst⟩:=HNP.o.to_ i zb v hzb hv;have hyw:=Qei (HOK.out.arcs y (Zm hy)).w;have hbn:b<na:=by rw [HNA.out];exact (Zs hy).1
  obtain ⟨wy,hwy⟩:=Zx y.2.2;rw [←hwy] at hyw;have hz0:=HJi.o.c0;have hzM:z≤70373039144960:=hz0.2;have j0:0≤(i:Int):=Oo
  have j1:(i:Int)<nO:=Oo
  have q0:=(HWi.o.a.qr.le (Qan _ _)).q0;have HSX:=Zh (show ∀ V,Bw wr V→V.cell? ⟨pc,po+i,none⟩=some (.int .i64 v)∧V.cell? ⟨qb,0,none⟩=some (.pointer (some ⟨g,0,none⟩)) from fun V hV=>⟨Zc hV (Zn _) cC1,Zc hV (Zn _) q0⟩);have HGW:=Zh (show Calls prog 128 #[.pointer (some ⟨g,0,none⟩),.int .i64 b] wr.drew fun e w'=>e=.returned (.int .i64 wy)∧wr.drew=w' from by rw [hwy];exact HWE.out _ ((HWi.o.a.qr.gr.le (Qan _ _)).below (Zr _ _).drew) b y hy);obtain ⟨w11,hw11⟩:=Zx ((wr.alloc (.cells #[.int .i64 z,.int .i64 v,.int .i64 wy] 2)).drew);have hb11:Bw wr w11:=by rw [hw11];exact ((Zr _ _).alloc (Zn _) _).drew
  have hrd:RdI w11 (some ⟨wr.heap.size,0,none⟩) 3 [z,v,wy]:=by rw [hw11];exact Blk.rdI (t:=2) (l:=[z,v,wy]) (Blk.new wr 2 (Qbr [z,v,wy])).drew rfl
  have HSU:=Zh (Qjb _ 3 w11 z v wy hrd ⟨hz0.1,Oo⟩ ⟨hv0,hv9⟩ ⟨Oo,Oo⟩);obtain ⟨far,hfar⟩:=Zx (Qdg (Qdg z v) wy);rw [←hfar] at HSU;have HFR:=Zh hfar;have HWY:=Zh hwy;have HY:=Zh hy;have HZB:=Zh hzb;have HV:=Zh hv;have HST:=Zh hst;have HB11:=Zh hb11;have HW11:=Zh hw11;have HYW:=Zh hyw;clear hzb hv hy hst hwy hfar hb11 hw11 hrd hyw;go_wp2_with fail
  refine wp_region_held_drew (S:=fun V=>Bw wr V) Kf (Zr _ _).drew (fun _=>?_);refine tzd 0 135 ?_;refine tzd 4 139 ?_;refine tzb 8 143 ?_;refine Zk 10 (fun K hK=>?_);go_simp;with_reducible refine HGW.o.mono ?_
  rintro e w' ⟨rfl,rfl⟩;go_simp;refine hK.out _ _ (Zr _ _).drew (fun _=>?_);clear hK K;refine Zk 11 (fun K hK=>?_);go_simp;rw [←HW11.o];refine hK.out _ _ HB11.o (fun _=>?_);clear hK K;refine Zk 12 (fun K hK=>?_);go_simp;with_reducible refine HSU.o.mono ?_
  rintro e w' ⟨rfl,rfl⟩;go_simp;refine hK.out _ _ HB11.o (fun _=>?_);clear hK K;refine tz 13 24 ?_;refine Zd ?_;have HWj:=Zh (HWi.o.below HB11.o);have HLj:=Zh (HLi.o.trans (Qaz.msk (G:=GG) (Qaz.below HB11.o)));clear HSX HGW HSU HW11 cO1 cC1 q0;by_cases hno:v=1152921504606846976∨wy=1152921504606846976;{have hff:¬far<1152921504606846976:=by{have:=HYW.o;rw [HFR.o,Qto hz0.1 hv0 Oo Oo];omega};have HJX:=Zh (HJi.o.skip HZB.o HV.o HY.o (by rw [←HWY.o];exact hno));have HWX:=HWj;have HLX:=HLj;clear hno;(go_wp2_with fail);go_roundw;(case rel=>exact ⟨i+1,_,Oo,by go_num,HWX.out,HJX.o,HLX.out⟩);case measure=>simp [intOf];omega}
  · have HS:=Zh (HST.o (fun e=>hno (.inl e)) (fun e=>hno (.inr (by rw [HWY.o];exact e))));(have hsb:=HS.o.bd HOK.out;rw [←HWY.o] at hsb;have hyw:=HYW.o;have hfe:far=z+(v+wy):=by rw [HFR.o,Qzb Oo Oo]);(have hff:far<1152921504606846976:=Oo);(have hf0:0≤far:=Oo);(have HFE:=Zh hfe;have hbl:b<(dn.set k true).length:=by rw [HJi.o.ld];exact hbn);(have db0:=HWj.o.a.dd.cellB (i:=b) (Qbo false hbl);have k0:0≤(b:Int):=Oo);(have k1:(b:Int)<na:=Oo);obtain ⟨dd,hdd⟩:=Zx ((dn.set k true).getD b false);rw [←hdd] at db0;have HDD:=Zh hdd;clear hno hsb hyw hfe hbl hdd
    cases dd with
    | true =>have HJX:=Zh (HJi.o.off HZB.o HV.o HY.o HS.o hbn HDD.o.symm);have HWX:=HWj;have HLX:=HLj;(go_wp2_with fail);go_roundw;(case rel=>exact ⟨i+1,_,Oo,by go_num,HWX.out,HJX.o,HLX.out⟩);case measure=>simp [intOf];omega
    | false =>have hput:=HJi.o.put HOK.out HZB.o HV.o HY.o HS.o hbn HDD.o.symm;rw [←HWY.o,←HFE.o] at hput;have HJP:=Zh hput;have HPU:=Zh (Qgk w11 hp2 HWj.o.hh b hbn far hf0 Oo);clear hput;(go_wp2_with fail);(with_reducible refine HPU.o.mono ?_);rintro e w12 ⟨rfl,hh12,ha12⟩;have HW12:=Zh (HWj.o.heap hh12 ha12);have HL12:=Zh (HLj.o.trans (Qaz.msk (G:=GG) (ha12.kept.mono (fun _ hb=>.inr (.inl hb)))));clear hh12 ha12 HPU db0;have HJX:=HJP;have HWX:=HW12;have HLX:=HL12;(go_wp2_with fail);go_roundw;(case rel=>exact ⟨i+1,_,Oo,by go_num,HWX.out,HJX.o,HLX.out⟩);case measure=>simp [intOf];omega):p:=h
theorem Kab {p:Prop} (h:p:=by
 rintro e w3 ⟨A4,n4,m4,rfl,h4,hA4,h5,hb3⟩;have hB3:=hR.below hb3 hR.lt;obtain ⟨d0,d1,f0,f1⟩:=hB3.two;have hbw3:=Zb hb hb3;have HW:=Zh ((h4.setFar (w.heap.size+1) 0 (.slice A4 n4 m4) (fun b e=>⟨by have:=(hA4 b e).1;have:=hR.lt;omega,(hA4 b e).2⟩)).setFar (w.heap.size+1) 1 (.int .i64 1) (fun b e=>⟨by have:=(hA4 b e).1;have:=hR.lt;omega,by simpa [World.setCell] using (hA4 b e).2⟩));have hbw4:Bw w ((w3.setCell ⟨w.heap.size+1,0,none⟩ (.slice A4 n4 m4)).setCell ⟨w.heap.size+1,1,none⟩ (.int .i64 1)):=(hbw3.setCell Sn _).setCell Sn _;have HFR:=Zh (show ∀ b,Qaa A4=some b→w.heap.size≤b∧b<((w3.setCell ⟨w.heap.size+1,0,none⟩ (.slice A4 n4 m4)).setCell ⟨w.heap.size+1,1,none⟩ (.int .i64 1)).heap.size from fun b e=>⟨by have:=(hA4 b e).1;have:=hR.lt;omega,by simpa [World.setCell] using (hA4 b e).2⟩);clear h4 hA4 hb3;go_wp2_with fail
 refine bodyPost_ret (v:=.agg #[.slice A4 n4 m4,.int .i64 1]) (by simp [results,results29,go_sem,d0,d1]) rfl ?_;rw [show jb=some _ from HJB.o.trans HE.o];exact ⟨⟨_,_,_,rfl,HW.o,h5,HFR.o⟩,hbw4⟩):p:=h
theorem Kac {p:Prop} (h:p:=by
 have HYY:=Zh hyW;have hownY:=hyW.1;clear hyW;refine Zk 10 (fun K hK=>?_);with_reducible refine Qbc (some 22) rfl rfl (.tmp 13) (.tmp 21) 27 rfl 64 _ 1 24 Qhj underlying27 rfl Oo rfl rfl hownY hrdW (Qch _ _ _) Oo Oo hWsz ?_
 intro A' c' w' hown' hg hat;have hb5:Below (w.heap.size+2) wr w':=Zo hbW hg (hownY.mono Oo) Oo;have hb6:Bw w w':=Zo hblW hg (hownY.mono Oo) Oo;have hJ':=hJW.grown hg (hownY.ne Oo);have hR':=hRW.grown hg (hownY.ne Oo);have hK':=hKW.grown hg (hownY.ne Oo);have HYN:=Zh (HYY.o.push hown' hg hat hcW hclW hcapW hcapM);clear hownY hrdW hbW hblW hJW hRW hKW hg hclW hcW hown' hat HYY hbrW hcapW hcapM;refine hK.out _ _ hb5 (fun _=>?_);clear hK K;simp only [Act.put,Yi,Yj,Yk];refine tz 11 23 ?_;have k3':=hK'.cell 0;simp only [Yo,Yn] at k3';have kf':=hK'.frozen 0;refine Zk 12 (fun K hK=>?_);go_simp;refine hK.out _ _ (hb5.setCell Sn _) (fun _=>?_);clear hK K;refine Zd ?_;have HK2:=Zh (hK'.set_ 0 (.slice A' (j+1) c'));have HY2:=Zh (HYN.o.far (Qac w' (w.heap.size+2) 0 (.slice A' (j+1) c')) Oo);have HB2:=Zh (show Bw w (w'.setCell ⟨w.heap.size+2,0,none⟩ (.slice A' (j+1) c')) from hb6.setCell Sn _);have HJ2:=Zh (hJ'.far_ (b:=w.heap.size+2) (o:=0) Oo (.slice A' (j+1) c'));have HR2:=Zh (hR'.far_ (b:=w.heap.size+2) (o:=0) Oo (.slice A' (j+1) c'));clear hK' k3' kf' hJ' hR';go_wp2_with fail
 go_roundw;case rel=>exact ⟨HB2.o,HJ2.o,HR2.o,j+1,A',c',_,Oo,by go_num,HK2.o,by rw [HN.o];exact HY2.o⟩
 case measure=>simp [intOf];omega):p:=h
theorem Kad {p:Prop} (h:p:=by
 rintro e w3 ⟨A4,n4,m4,rfl,h4,hA4,h5,hb3⟩;have hB3:=hR.below hb3 hR.lt;obtain ⟨d0,d1,f0,f1⟩:=hB3.two;have hbw3:=Zb hb hb3;have HW:=Zh ((h4.setFar (w.heap.size+1) 0 (.slice A4 n4 m4) (fun b e=>⟨by have:=(hA4 b e).1;have:=hR.lt;omega,(hA4 b e).2⟩)).setFar (w.heap.size+1) 1 (.int .i64 5) (fun b e=>⟨by have:=(hA4 b e).1;have:=hR.lt;omega,by simpa [World.setCell] using (hA4 b e).2⟩));have hbw4:Bw w ((w3.setCell ⟨w.heap.size+1,0,none⟩ (.slice A4 n4 m4)).setCell ⟨w.heap.size+1,1,none⟩ (.int .i64 5)):=(hbw3.setCell Sn _).setCell Sn _;have HFR:=Zh (show ∀ b,Qaa A4=some b→w.heap.size≤b∧b<((w3.setCell ⟨w.heap.size+1,0,none⟩ (.slice A4 n4 m4)).setCell ⟨w.heap.size+1,1,none⟩ (.int .i64 5)).heap.size from fun b e=>⟨by have:=(hA4 b e).1;have:=hR.lt;omega,by simpa [World.setCell] using (hA4 b e).2⟩);clear h4 hA4 hb3;go_wp2_with fail
 refine bodyPost_ret (v:=.agg #[.slice A4 n4 m4,.int .i64 5]) (by simp [results,results29,go_sem,d0,d1]) rfl ?_;rw [show jb=some _ from HJB.o.trans HE.o];exact ⟨⟨_,_,_,rfl,HW.o,h5,HFR.o⟩,hbw4⟩):p:=h
theorem Kae {p:Prop} (h:p:=by
 have HYY:=Zh hyW;have hownY:=hyW.1;clear hyW;refine Zk 5 (fun K hK=>?_);with_reducible refine Qbc (some 18) rfl rfl (.tmp 14) (.tmp 17) 27 rfl 64 _ 1 24 Qhj underlying27 rfl Oo rfl rfl hownY hrdW (Qch _ _ _) Oo Oo hWsz ?_
 intro A' c' w' hown' hg hat;have hb5:Below (w.heap.size+2) wr w':=Zo hbW hg (hownY.mono Oo) Oo;have hb6:Bw w w':=Zo hblW hg (hownY.mono Oo) Oo;have hJ':=hJW.grown hg (hownY.ne Oo);have hR':=hRW.grown hg (hownY.ne Oo);have hK':=hKW.grown hg (hownY.ne Oo);have HYN:=Zh (HYY.o.push hown' hg hat hcW hclW hcapW hcapM);clear hownY hrdW hbW hblW hJW hRW hKW hg hclW hcW hown' hat HYY hbrW hcapW hcapM;refine hK.out _ _ hb5 (fun _=>?_);clear hK K;simp only [Act.put,Yi,Yj,Yk];refine tz 6 19 ?_;have k3':=hK'.cell 0;simp only [Yo,Yn] at k3';have kf':=hK'.frozen 0;refine Zk 7 (fun K hK=>?_);go_simp;refine hK.out _ _ (hb5.setCell Sn _) (fun _=>?_);clear hK K;refine Zd ?_;have HK2:=Zh (hK'.set_ 0 (.slice A' (j+1) c'));have HY2:=Zh (HYN.o.far (Qac w' (w.heap.size+2) 0 (.slice A' (j+1) c')) Oo);have HB2:=Zh (show Bw w (w'.setCell ⟨w.heap.size+2,0,none⟩ (.slice A' (j+1) c')) from hb6.setCell Sn _);have HJ2:=Zh (hJ'.far_ (b:=w.heap.size+2) (o:=0) Oo (.slice A' (j+1) c'));have HR2:=Zh (hR'.far_ (b:=w.heap.size+2) (o:=0) Oo (.slice A' (j+1) c'));clear hK' k3' kf' hJ' hR';go_wp2_with fail
 go_roundw;case rel=>exact ⟨HB2.o,HJ2.o,HR2.o,j+1,A',c',_,Oo,by go_num,HK2.o,by rw [HN.o];exact HY2.o⟩
 case measure=>simp [intOf];omega):p:=h
theorem Kaf {p:Prop} (h:p:=by
 go_wp2_with fail
 with_reducible refine (Qbe _ _ _ _).mono ?_
 rintro r w5 ⟨v,rfl,hc5,hb5⟩;have HC:=Zh hc5;have HB5:=Zh hb5;clear hc5 hb5;go_wp2_with fail
 go_ret;rw [show jb=some _ from HJB.o.trans HE.o];exact ⟨⟨_,rfl,HC.o⟩,Zb HBL.o HB5.o⟩):p:=h
theorem Kag {p:Prop} (h:p:=by first | exact ⟨Qca.no Sd,Qag⟩ | exact ⟨Qdf.no (Wg.mono (B:=w5.heap.size) (Wg.setCell (Wg.setCell hg4 hB5.lt _) hB5.lt _) hb5.size) Sd,Qag⟩):p:=h
theorem Kah {p:Prop} (h:p:=by obtain ⟨A0,c0,k1,hown0⟩:=h5 u l hl;rw [hcs] at k1;cases k1;have hgA:Qaa A≠some g:=hown0.ne h2;have hgA':Qaa A'≠some g:=hown.ne h2;refine ⟨by rw [Yq];exact h1,h2,_,(h3.grown hg hgA).set_ u (.slice A' (l.length+1) c'),by simpa using h4,fun v l' hl'=>?_,fun v v' X m d X' m' d' hne e1 e2=>?_⟩;{by_cases e:u=v;{subst e;rw [Yg hu] at hl';cases hl';refine ⟨A',c',by rw [Array.getElem?_setIfInBounds_self_of_lt Oo,Yp];rfl,?_⟩;rw [Yp,Qbq];exact hown.far (Qac _ _ _ _) (.inr hgA')};{rw [Yh e] at hl';obtain ⟨X,d,k1,k2⟩:=h5 v l' hl';refine ⟨X,d,by rw [Array.getElem?_setIfInBounds_ne e];exact k1,(k2.far hg (h6 u v _ _ _ _ _ _ e hcs k1).far).far (Qac _ _ _ _) (.inr (k2.ne h2))⟩}};{have old:∀ v X m d,u≠v→cs[v]?=some (.slice X m d)→Dj A' X:=fun v X m d hv e3=>by{have hv2:=(Array.getElem?_eq_some_iff.1 e3).1;obtain ⟨X0,d0,k1,k2⟩:=h5 v _ (Zg (show v<ls.length by omega));rw [e3] at k1;cases k1;exact (h6 u v _ _ _ _ _ _ hv hcs e3).next k2 hat};by_cases a1:u=v;{subst a1;rw [Array.getElem?_setIfInBounds_self_of_lt Oo] at e1;cases e1;rw [Array.getElem?_setIfInBounds_ne hne] at e2;exact old v' X' m' d' hne e2};{rw [Array.getElem?_setIfInBounds_ne a1] at e1;by_cases a2:u=v';{subst a2;rw [Array.getElem?_setIfInBounds_self_of_lt Oo] at e2;cases e2;exact (old v X m d a1 e1).symm};{rw [Array.getElem?_setIfInBounds_ne a2] at e2;exact h6 v v' X m d X' m' d' hne e1 e2}}}):p:=h
theorem Kai {p:Prop} (h:p:=by
 clear hW;refine Zk 16 (fun K hK=>?_);with_reducible refine Qbc (some 35) rfl rfl (.tmp 20) (.tmp 34) 40 rfl 90 _ 2 16 Qzr underlying40 rfl Oo rfl rfl hownW hrdW (Rif x y) Oo Oo hWsz ?_
 intro A' c' w' hown' hg _;have hb5:Below (w.heap.size+1+1) wr w':=Zo hbW hg (hownW.mono Oo) Oo;have hb6:Bw w w':=Zo hblW hg (hownW.mono Oo) Oo;have hJ':=hJW.grown hg (hownW.ne Oo);have hR':=hRW.grown hg (hownW.ne Oo);have hK':=hKW.grown hg (hownW.ne Oo);clear hownW hrdW hbW hblW hJW hRW hKW hg;refine hK.out _ _ hb5 (fun _=>?_);clear hK K;simp only [Act.put,Yi,Yj,Yk];refine tz 17 36 ?_;have k3':=hK'.four.2.2.2;have kf':=hK'.frozen 3;refine Zk 18 (fun K hK=>?_);go_simp;refine hK.out _ _ (hb5.setCell Sn _) (fun _=>?_);clear hK K;refine Zd ?_;have HO:=Zh (hown'.far (Qac w' (w.heap.size+1+1) 3 (.slice A' (k+1) c')) (.inr (hown'.ne Oo)));have HK2:=Zh (hK'.set_ 3 (.slice A' (k+1) c'));clear hown' hK' k3' kf';go_wp2_with fail
 go_roundw;case rel=>exact ⟨Qag,Qiq,Qiq,k+1,A',c',Oo,by go_num,HK2.o,by rw [HN.o];exact HO.o⟩
 case measure=>simp [intOf];omega):p:=h
theorem Kaj {p:Prop} (h:p:=by
 (have HBRK:=Zh (show Qcm cap lim rows st≠none from fun e=>by
  rw [HJB.o,Qcc HX.o (c:=(Qpu cap lim rows (k0+1) (x,y)).getD 0) (by
   cases hf:Qpu cap lim rows (k0+1) (x,y) with
   | some c=>rfl
   | none=>exact absurd (Qrp.1 hf) (by have:=HTR.o;simp only;omega))] at e
  cases e))
 rcases HCS.o with ⟨_,rfl,rfl,rfl,ty1,xv,rfl⟩|⟨h,_⟩
 rotate_left;{exact absurd h HBRK.o};refine Zd ?_;have p0:=(HXr.o.drew).two;obtain ⟨p0,p1,_,_⟩:=p0;clear HSX;go_wp2_with fail
 go_ret;exact ⟨Qao Sm,Zb HBr.o (by repeat (first|exact Zr _ _|apply Below.drew))⟩):p:=h
theorem Kak {p:Prop} (h:p:=by simp only [joinedFacts,Bool.and_eq_true];exact ⟨⟨⟨⟨⟨⟨⟨⟨⟨⟨⟨⟨⟨⟨⟨⟨⟨⟨⟨⟨⟨⟨⟨⟨⟨⟨⟨⟨⟨⟨⟨jf0,jf1⟩,jf2⟩,jf3⟩,jf4⟩,jf5⟩,jf6⟩,jf7⟩,jf8⟩,jf9⟩,jf10⟩,jf11⟩,jf12⟩,jf13⟩,jf14⟩,jf15⟩,jf16⟩,jf17⟩,jf18⟩,jf19⟩,jf20⟩,jf21⟩,jf22⟩,jf23⟩,jf24⟩,jf25⟩,jf26⟩,jf27⟩,jf28⟩,jf29⟩,jf30⟩,jf31⟩):p:=h
theorem Kal {p:Prop} (h:p:=by
 obtain ⟨k,hk,rfl,hj⟩:=hrel;have HJ:=Zh hj;clear hj;by_cases hlt:k<n
 · obtain ⟨b,o,x,rfl,hx,hc⟩:=HR.out.at_ hlt;(have i1:0≤(k:Int):=Oo);(have i2:(k:Int)<n:=Oo);by_cases e:x=v;{have HP:=Zh (Qsl (e▸hx) HJ.o);(have e1:(x == v)=true:=by simpa using e);(have e2:(v == x)=true:=by simpa using e.symm);clear e hx;(go_wp2_with fail);go_ret;exact ⟨Qav HP.o.symm,rfl⟩}
   · (have e1:(x == v)=false:=by simpa using e);(have e2:(v == x)=false:=by simpa using (fun h:v=x=>e h.symm));have HX:=Zh hx;have HE:=Zh e;clear e hx;(go_wp2_with fail);go_round
     case rel=>exact ⟨k+1,Oo,by go_num,fun j y hj hy=>by
      by_cases ej:j=k
      · subst ej
        rw [HX.o] at hy
        cases hy
        exact HE.o
      · exact HJ.o j y Oo hy⟩
     case measure=>simp [intOf];omega
 · obtain rfl:n=k:=by omega
   have HP:=Zh (Qdn (l:=l) (v:=v) (fun hm=>by
    obtain ⟨j,hj⟩:=Yr hm;exact HJ.o j v (by rw [←HL.out];exact (Zs hj).1) hj rfl))
   (go_wp2_with fail);go_ret;exact ⟨Qav HP.o.symm,rfl⟩):p:=h
theorem Kam {p:Prop} (h:p:=by
 clear hw5;with_reducible refine (Qax _ _ _ _).mono ?_
 rintro e w2 ⟨⟨A4,n4,m4,rfl,hg4⟩,hb⟩;have hB2:=Blk.below hB5 hb hB5.lt;obtain ⟨c0,c1,f0,f1⟩:=hB2.two;have hb2:Bw w w2:=Zb hb5 hb;go_wp2_with fail
 refine bodyPost_ret (v:=.agg #[.slice A4 n4 m4,.int .i64 1]) (by simp [results,results155,go_sem,c0,c1]) rfl ?_;exact Kag):p:=h
theorem Kan {p:Prop} (h:p:=by
 go_wp2_with fail
 with_reducible refine (Qbe _ _ _ _).mono ?_
 rintro r w5 ⟨v,rfl,hc5,hb5⟩;have HC:=Zh hc5;have HB5:=Zh hb5;clear hc5 hb5;go_wp2_with fail
 go_ret;rw [show jb=some _ from HJB.o.trans HE.o];exact ⟨⟨_,rfl,HC.o⟩,Zb Qag HB5.o⟩):p:=h
theorem Kao {p:Prop} (h:p:=by subst he;exact ⟨_,rfl,_,_,_,[],_,[],hW',trodAll_mk1 (shut_bool Tryz.underlying4 _),(trodAll_cons_mk (Below.trod Qdl Kf (of_decide_eq_true Kf) k0 bel lt0) (trodAll_cons_mk (Below.trod Qdl Kf (of_decide_eq_true Kf) k1 bel lt1) (trodAll_cons_mk (Below.trod Qdl Kf (of_decide_eq_true Kf) k2 bel lt2) trodAll_mk0))),rfl,bel.frame _,fun h=>by cases h⟩):p:=h
theorem Kap {p:Prop} (h:p:=by obtain ⟨rfl,⟨rfl,rfl⟩|⟨rfl,rfl⟩|⟨rfl,rfl⟩|⟨rfl,rfl⟩⟩:=hrel;{(go_wp2_with fail);(with_reducible refine HX.o.mono ?_);rintro e w' ⟨rfl,rfl⟩;(go_wp2_with fail);go_roundw;(case rel=>exact ⟨by trivial,.inr (.inl ⟨rfl,rfl⟩)⟩);case measure=>simp [intOf]};{(go_wp2_with fail);(with_reducible refine HY.o.mono ?_);rintro e w' ⟨rfl,rfl⟩;(go_wp2_with fail);go_roundw;(case rel=>exact ⟨by trivial,.inr (.inr (.inl ⟨rfl,rfl⟩))⟩);case measure=>simp [intOf]};{(go_wp2_with fail);(with_reducible refine HZ.o.mono ?_);rintro e w' ⟨rfl,rfl⟩;(go_wp2_with fail);go_roundw;(case rel=>exact ⟨by trivial,.inr (.inr (.inr ⟨rfl,rfl⟩))⟩);case measure=>simp [intOf]};{(go_wp2_with fail);go_ret;exact ⟨rfl,rfl⟩}):p:=h
theorem Kaq {p:Prop} (h:p:=by
 clear hw5;with_reducible refine (Qax _ _ _ _).mono ?_
 rintro e w2 ⟨⟨A4,n4,m4,rfl,hg4⟩,hb⟩;have hB2:=Blk.below hB5 hb hB5.lt;obtain ⟨c0,c1,f0,f1⟩:=hB2.two;have hb2:Bw w w2:=Zb hb5 hb;go_wp2_with fail
 refine bodyPost_ret (v:=.agg #[.slice A4 n4 m4,.int .i64 4]) (by simp [results,results105,go_sem,c0,c1]) rfl ?_;exact Kag):p:=h
theorem Kar {p:Prop} (h:p:=by
 go_wp2_with fail
 with_reducible refine (Qfw _ _ _ _).mono ?_
 rintro r w5 ⟨v,rfl,hc5,hb5⟩;obtain ⟨tv,xv,rfl⟩:=Qaw hc5;have HC:=Zh hc5;clear hc5;go_wp2_with fail
 refine bodyPost_ret (v:=.tuple #[.slice none 0 0,.iface tv xv]) (by simp [results,results41,go_sem]) rfl ?_;exact ⟨⟨_,rfl,HC.o⟩,hb5⟩):p:=h
theorem Kas {p:Prop} (h:p:=by refine ⟨Sm,hg,_,h,by simp [Qbg],fun v l hl=>?_,fun v v' A m c A' m' c' _ h1 _=>?_⟩;{obtain ⟨hv,e⟩:=Zs hl;simp at e;subst e;refine ⟨none,0,?_,Own.nil _ _ _ _⟩;simp at hv;simp [Qbg,hv]};{have e:=(Array.getElem?_eq_some_iff.1 h1).2;simp [Qbg] at e;obtain ⟨rfl,_,_⟩:=e;exact .inl rfl}):p:=h
theorem Kat {p:Prop} (h:p:=by
 go_wp2_with fail
 with_reducible refine HX.o.mono ?_
 rintro e w' ⟨rfl,rfl⟩;go_wp2_with fail
 with_reducible refine HY.o.mono ?_
 rintro e w' ⟨rfl,rfl⟩;go_wp2_with fail
 with_reducible refine HZ.o.mono ?_
 rintro e w' ⟨rfl,rfl⟩;go_wp2_with fail
 go_ret;exact ⟨rfl,rfl⟩):p:=h
theorem Kau {p:Prop} (h:p:=by have h1:=hloW g hg;refine ⟨Oo,h1.2,fun e=>?_⟩;have h2:=(hown.1.lt g e).2;omega):p:=h
theorem Kav {p:Prop} (h:p:=by obtain ⟨fuel,hf⟩:=h0;obtain ⟨A,B,C,n,m,k,c,d,e,N,e1,e2,e3⟩:=Qmv hf;exact ⟨A,B,C,n,m,k,c,d,e,N,Array.toList_inj.1 e1,e2,e3⟩):p:=h
theorem Kaw {p:Prop} (h:p:=by
 go_wp2_with fail
 with_reducible refine HSW.o.mono ?_
 rintro e w'' ⟨rfl,hw2,ha2⟩;have HW2:=Zh hw2;have HA2:=Zh (HA'.o.trans ha2);clear hw2 ha2 HW' HA' HSW;go_wp2_with fail
 go_roundw;case rel=>exact ⟨l,_,_,rfl,Oo,HW2.o,HST.o.1,by have:=HST.o.2;rw [Qga,hlr] at this;exact this,fun k=>(HKM.o k).trans (HK.o k),HA2.o⟩
 case measure=>simp [intOf];omega):p:=h
theorem Kax {p:Prop} (h:p:=by go_ret;exact ⟨rfl,rfl⟩):p:=h
theorem Kay {p:Prop} (h:p:=by
 clear hw5;with_reducible refine (Qax _ _ _ _).mono ?_
 rintro e w2 ⟨⟨A4,n4,m4,rfl,hg4⟩,hb⟩;have hB2:=Blk.below hB5 hb hB5.lt;obtain ⟨c0,c1,f0,f1⟩:=hB2.two;have hb2:Bw w w2:=Zb hb5 hb;go_wp2_with fail
 refine bodyPost_ret (v:=.agg #[.slice A4 n4 m4,.int .i64 1]) (by simp [results,results105,go_sem,c0,c1]) rfl ?_;exact Kag):p:=h
theorem Kaz {p:Prop} (h:p:=by
 clear hw5;with_reducible refine (Qax _ _ _ _).mono ?_
 rintro e w2 ⟨⟨A4,n4,m4,rfl,hg4⟩,hb⟩;have hB2:=Blk.below hB5 hb hB5.lt;obtain ⟨c0,c1,f0,f1⟩:=hB2.two;have hb2:Bw w w2:=Zb hb5 hb;go_wp2_with fail
 refine bodyPost_ret (v:=.agg #[.slice A4 n4 m4,.int .i64 9]) (by simp [results,results105,go_sem,c0,c1]) rfl ?_;exact Kag):p:=h
theorem Kba {p:Prop} (h:p:=by
 clear hw5;with_reducible refine (Qax _ _ _ _).mono ?_
 rintro e w2 ⟨⟨A4,n4,m4,rfl,hg4⟩,hb⟩;have hB2:=Blk.below hB5 hb hB5.lt;obtain ⟨c0,c1,f0,f1⟩:=hB2.two;have hb2:Bw w w2:=Zb hb5 hb;go_wp2_with fail
 refine bodyPost_ret (v:=.agg #[.slice A4 n4 m4,.int .i64 4]) (by simp [results,results67,go_sem,c0,c1]) rfl ?_;exact Kag):p:=h
theorem Kbb {p:Prop} (h:p:=by
 go_wp2_with fail
 rw [←HW1.o];have hR:=HRE.o;have hb:=HBL.o;with_reducible refine (Qdo _ _ _ _).mono ?_
 exact Kab):p:=h
theorem Kbc {p:Prop} (h:p:=by obtain ⟨h1,h2,cs,h3,h4,h5,h6⟩:=h;have hl:ls[u]?=some ls[u]:=Zg Oo;obtain ⟨A,c,k1,k2⟩:=h5 u _ hl;exact ⟨A,c,_,hl,by rw [h3.cell];exact k1,h3.frozen u,k2⟩):p:=h
theorem Kbd {p:Prop} (h:p:=by
 go_loop [16] (fun q=>q=.int .i64 0) (fun _=>0)
 case atStart=>rfl
 case round =>
  subst hrel;go_wp2_with fail
  all_goals
   go_ret
   exact ⟨Qav HC.o.symm,Zb hbw3 hb99⟩):p:=h
theorem Kbe {p:Prop} (h:p:=by
 go_wp2_with fail
 refine bodyPost_ret (v:=.slice (some ⟨rb,0,none⟩) nt nt) (by simp [results,results78,go_sem]) rfl ?_;exact ⟨rb,n,f,_,rfl,HRQ.o,HWE2.o.a.rr,HWE2.o.bs.2.2.1,HWE2.o.a.mq,HNN0.o,HWE2.o.a.mc.le (Qbj (fun b hb=>(HSB.out b hb).elim .inl (fun h=>.inr ⟨h,HWE2.o.a.gl b hb⟩))),HWE2.o.nx⟩):p:=h
theorem Kbf {p:Prop} (h:p:=by
 obtain ⟨h1,h2,cs,h3,h4,h5,h6⟩:=h
 exact ⟨h1,h2,cs,h3.below hb h3.lt,h4,fun v l hl=>by
  obtain ⟨A,c,k1,k2⟩:=h5 v l hl;exact ⟨A,c,k1,k2.below hb⟩,h6⟩):p:=h
theorem Kbg {p:Prop} (h:p:=by obtain ⟨_,_,cs,k3,_⟩:=hI9';have k3':=k3.grown hg10 (fun e=>by have:=(hRAlt _ e).1;omega);exact ⟨0,by rw [k3'.cell,←k3.cell];exact hrc9,k3'.frozen t,rfl⟩):p:=h
theorem Kbh {p:Prop} (h:p:=by
 rcases hat with hat|hat
 {exact k2 (by rw [←hat];exact e2)};{rw [hat] at e2;(injection e2 with e2);omega}):p:=h
theorem Kbi {p:Prop} (h:p:=by
 go_wp2_with fail
 go_roundw;case rel=>exact ⟨hb8,hX8,q+1,rs,Oo,by go_num,rfl,hR8,HPP.o,by rw [HNX.out,HJ.o],hSv8⟩
 case measure=>simp [intOf];omega):p:=h
theorem Kbj {p:Prop} (h:p:=by
 by_cases e1:q=b
 · subst e1;have h1:=(hst.bd hok).2;have h2:=h.c0.2
   cases e2:hp q with
   | none=>rw [hat0 e2] at hq;cases hq;omega
   | some z =>rw [hat1 z e2] at hq;simp only [Option.some.injEq] at hq;have:=h.bd q z e2;split at hq <;> omega
 {rw [hne q e1] at hq;exact h.bd q e hq}):p:=h
theorem Kbk {p:Prop} (h:p:=by
 have HN:=Zh (show Qte n rows rs cost k=Qte n rows rs cost (k+1) by
  unfold Qte;rw [Qfs hrp (by unfold misF;rw [if_pos hin])])
 clear hrp hsk hin;go_wp2_with fail
 go_roundw;case rel=>exact ⟨k+1,Oo,by go_num,by trivial,by rw [←HN.o];exact HJB.o⟩
 case measure=>simp [intOf];omega):p:=h
theorem Kbl {p:Prop} (h:p:=by obtain ⟨h1,h2,cs,h3,h4,h5,h6⟩:=h;have hb:=h3.grown hg hr;exact ⟨_,by rw [hb.cell];exact Array.getElem?_eq_getElem Oo,hb.frozen u⟩):p:=h
theorem Kbm {p:Prop} (h:p:=by
 go_wp2_with fail
 go_ret;exact ⟨⟨false,rfl,fun h=>by cases h⟩,Qag⟩):p:=h
theorem Kbn {p:Prop} (h:p:=by obtain ⟨h1,h2,cs,h3,h4,h5,h6⟩:=h;refine ⟨h1,fun i l hl=>?_⟩;obtain ⟨A,c,k1,k2⟩:=h5 i l hl;exact ⟨g,0,A,l.length,c,rfl,Qat.2 ⟨hg,by rw [Yz,h3.cell];exact k1⟩,(k2.rds.rdI).msk (fun b hb=>hB b (k2.lt b hb).1 (k2.lt b hb).2),k2.cap,k2.capMax⟩):p:=h
theorem Kbo {p:Prop} (h:p:=by
 go_wp2_with fail
 go_ret;unfold JdgP;rw [HE.o];exact ⟨bl,rfl,HBX.o,HSX0.o,HAX.o⟩):p:=h
theorem Kbp {p:Prop} (h:p:=by
 go_wp2_with fail
 go_ret;unfold JdgI;rw [HE.o];exact ⟨sl,rfl,HBX.o,HSX0.o,HAX.o⟩):p:=h
theorem Kbq {p:Prop} (h:p:=by
 go_wp2_with fail
 go_roundw;case rel=>exact ⟨i+1,h3,Oo,by go_num,HWX.out,HJX.o⟩
 case measure=>simp [intOf];omega):p:=h
theorem Kbr {p:Prop} (h:p:=by obtain ⟨cs,h1,h2,h3⟩:=h;exact ⟨⟨_,by rw [h1.cell];exact Array.getElem?_eq_getElem Oo⟩,h1.frozen i⟩):p:=h
theorem Kbs {p:Prop} (h:p:=by
 go_wp2_with fail
 go_quiet (fail)
 go_wp2_with fail
 go_roundw;case rel=>exact ⟨Qbd hbn _,k+1,_,Oo,by go_num,by rw [HNX.out];first|rw [HM.o.1]|rw [HM.o.2],HBN.o.drewN _,HUN.o⟩
 case measure=>simp [intOf];omega):p:=h
theorem Kbt {p:Prop} (h:p:=by
 have HE:=Zh (HJ1.o 5 hx);have HF:=Zh (show r≠[]→Qhd n P r=none→Qgf n bl (P ++r) from fun _ h=>by rw [hx] at h;cases h);clear hx;go_wp2_with fail
 go_ret;unfold JdgP;rw [HE.o];exact ⟨bl,rfl,HB.o,HF.o,HA.o⟩):p:=h
theorem Kbu {p:Prop} (h:p:=by
 have HE:=Zh (HJ1.o 5 hx);have HF:=Zh (show r≠[]→Qhd n P r=none→Qtd n sl (P ++r) from fun _ h=>by rw [hx] at h;cases h);clear hx;go_wp2_with fail
 go_ret;unfold JdgI;rw [HE.o];exact ⟨sl,rfl,HB.o,HF.o,HA.o⟩):p:=h
theorem Kbv {p:Prop} (h:p:=by
 refine List.ext_getElem? (fun i=>?_);by_cases hi:i<pts.length
 {obtain ⟨v,hv,h1⟩:=h.2 i _ (Zg hi);obtain ⟨v',hv',h2⟩:=g.2 i _ (Zg hi);rw [hv,hv',h1.uniq h2]};{rw [Yd (by rw [h.1];omega),Yd (by rw [g.1];omega)]}):p:=h
theorem Kbw {p:Prop} (h:p:=by refine ⟨by rw [Yq];exact h.1,fun s hs=>?_⟩;rw [List.getElem?_set];by_cases e:y=s;{subst e;rw [if_pos rfl,if_pos (by rw [h.1];omega)];simp};{rw [if_neg e,h.2 s hs];(have h5:¬((s:Int)=y):=Oo);simp [h5]}):p:=h
theorem Kbx {p:Prop} (h:p:=by constructor;{rintro ⟨⟨a,i⟩,⟨h1,h2⟩,rfl⟩;exact ⟨i,a,rfl,List.mem_zipIdx_iff_getElem?.1 h1,h2⟩};{rintro ⟨i,a,rfl,h1,h2⟩;exact ⟨(a,i),⟨List.mem_zipIdx_iff_getElem?.2 h1,h2⟩,rfl⟩}):p:=h
theorem Kby {p:Prop} (h:p:=by rw [World.cell?_alloc_lt _ _ ⟨0,0,none⟩ Sm,World.cell?_alloc_lt _ _ ⟨0,0,none⟩ hlt];exact hg):p:=h
theorem Kbz {p:Prop} (h:p:=by simp only [if_pos];exact ⟨has_put_same h2 hkl _,fun v e z=>by cases e;exact atKey_put_same h2 hkl _ _⟩):p:=h
theorem Kca {p:Prop} (h:p:=by
 rw [List.getElem?_eraseIdx] at hl;rw [List.getElem?_eraseIdx];split at hl
 {rename_i hji;exact ⟨j,Oo,hl,by rw [if_pos hji]⟩};{rename_i hji;exact ⟨j+1,Oo,hl,by rw [if_neg hji]⟩}):p:=h
theorem Kcb {p:Prop} (h:p:=by
 go_wp2_with fail
 with_reducible refine (HA.o _ rfl).mono ?_
 rintro e w' ⟨rfl,rfl⟩;go_wp2;exact Kax):p:=h
theorem Kcc {p:Prop} (h:p:=by obtain ⟨hlen,hrow⟩:=Qlq hs;have h1:ls[i]?=some ls[i]:=Zg Oo;have h2:=hrow i _ h1;have h3:ls[i][j]?=some ls[i][j]:=Zg Oo;rw [Qna h1 h3];exact (Qoy hs h1).2 _ (List.getElem_mem _)):p:=h
theorem Kcd {p:Prop} (h:p:=by obtain ⟨h1,h2,cs,h3,h4,h5,h6⟩:=h;refine ⟨h1,fun i l hl=>?_⟩;obtain ⟨A,c,k1,k2⟩:=h5 i l hl;exact ⟨g,0,A,l.length,c,rfl,by rw [Yz,h3.cell];exact k1,k2.rds.rdI,k2.cap,k2.capMax⟩):p:=h
theorem Kce {p:Prop} (h:p:=by
 go_wp2_with fail
 with_reducible refine (Qfw _ _ _ _).mono ?_
 rintro r w5 ⟨v,rfl,hc5,hb5⟩;have HC:=Zh hc5;clear hc5;go_wp2_with fail
 go_ret;rw [HN.o];exact ⟨⟨_,rfl,HC.o⟩,hb5⟩):p:=h
theorem Kcf {p:Prop} (h:p:=by
 have HB9:=Zh hb8;clear hown hrd hsz ho8 hg8 hb8;go_wp2_with fail
 go_roundw;case rel=>exact ⟨j+1,A3,c3,_,Oo,by go_num,rfl,HO8.o,HMC.o,HB9.o⟩
 case measure=>simp [intOf];omega):p:=h
theorem Kcg {p:Prop} (h:p:=by
 rcases h with ⟨x,h1,rfl⟩|⟨h1,d,h2,rfl⟩ <;> rcases g with ⟨y,g1,rfl⟩|⟨g1,d',g2,rfl⟩
 {rw [←h1,g1]};{rw [h1] at g1;cases g1};{rw [h1] at g1;cases g1};{rw [h2.uniq g2]}):p:=h
theorem Kch {p:Prop} (h:p:=by go_wp2;go_ret;exact ⟨Qav e.out.symm,rfl⟩):p:=h
theorem Kci {p:Prop} (h:p:=by obtain ⟨⟨cs,k1,k2,k3⟩,_⟩:=h;refine ⟨hl,fun i l hi=>?_⟩;obtain ⟨rb,g1,g2,g3,_⟩:=k3 i l hi;exact ⟨tb,0,_,_,_,rfl,by rw [Yz,k1.cell];exact g1,g2.rdI g3,Zn _,Oo⟩):p:=h
theorem Kcj {p:Prop} (h:p:=by
 go_enter func180,ntmps180
 go_wp2;go_ret;exact ⟨Qao (by first|(simp;done)|(simp;omega)),rfl⟩):p:=h
theorem Kck {p:Prop} (h:p:=by
 go_wp2_with fail
 go_ret;exact ⟨rfl,Qag⟩):p:=h
theorem Kcl {p:Prop} (h:p:=by
 go_enter func62,ntmps62
 go_wp2;go_ret;exact ⟨Qao (by first|(simp;done)|(simp;omega)),Qag⟩):p:=h
theorem Kcm {p:Prop} (h:p:=by
 go_enter func51,ntmps51
 go_wp2;refine wp_loop_rounds 1 ?_;rw [rounds_succ];go_wp2;exact Kax):p:=h
theorem Kcn {p:Prop} (h:p:=by
 go_wp2_with fail
 (try simp only [Exit.inBlock,Exit.then]);refine bodyPost_ret (results_none rfl _ _ _) rfl ?_;exact ⟨rfl,R',S',HW'.o,HQ.o,HO.o,HK.o,HA'.o⟩):p:=h
theorem Kco {p:Prop} (h:p:=by obtain ⟨e,h1,h2⟩:=Rch.bound (n:=N.ar.length) (D:=4294967296) Oo (fun p q d h=>⟨h.lt,(h.bd hok).2⟩) h;refine ⟨e,h1,?_⟩;have:=hok.la;unfold MB;omega):p:=h
theorem Kcp {p:Prop} (h:p:=by obtain ⟨D,⟨es,clock,h1,h2⟩,h3⟩:=h;exact ⟨D,⟨es,clock,e.trans h1,h2⟩,h3⟩):p:=h
theorem Kcq {p:Prop} (h:p:=by rw [hW];exact (Below.heap_setCell _ _ _ q q2).trans ((Below.heap_setCell _ _ _ q q2).trans ((Below.heap_setCell _ _ _ q q2).trans (Below.heap_setCell _ _ _ q q1)))):p:=h
theorem Kcr {p:Prop} (h:p:=by
 go_wp2_with fail
 go_ret;exact ⟨rfl,HB3.o⟩):p:=h
theorem Kcs {p:Prop} (h:p:=by
 go_wp2_with fail
 go_roundw;case rel=>exact ⟨dl3,more3,a+1,Oo,rfl,by go_num,HW3.o,HF3.o,HLE3.o,HLT3.o,HEX.o⟩
 case measure=>simp [intOf];omega):p:=h
theorem Kct {p:Prop} (h:p:=by
 go_wp2_with fail
 go_ret;exact ⟨Qao HF.o.symm,HBL.o⟩):p:=h
theorem Kcu {p:Prop} (h:p:=by have:=h.fl q hq;simpa [List.getElem?_set,e,e'] using this):p:=h
theorem Kcv {p:Prop} (h:p:=by
 rw [HST.o,HDR.o];show (if (z:Int)<1∨(n:Int)<z then some 5 else if (z:Int)∈P ++r.take i then some 6 else _)=_
 rw [if_neg Oo,if_pos g3]):p:=h
theorem Kcw {p:Prop} (h:p:=by refine Qph (k:=j) (i:=i) ?_ hr hj;unfold Qgw;rw [hoj];simp only [Option.elim,Array.any_eq_true',Bool.and_eq_true,beq_iff_eq];exact ⟨e,he,hb,heq⟩):p:=h
theorem Kcx {p:Prop} (h:p:=by obtain ⟨fuel,hf⟩:=h2;obtain ⟨dep,cap,lim,JA,jn,jc,st,e1,e2,_,_⟩:=Qsk hf;exact ⟨dep,cap,lim,JA,jn,jc,st,Array.toList_inj.1 e1,e2⟩):p:=h
theorem Kcy {p:Prop} (h:p:=by
 go_wp2_with fail
 go_roundw;case rel=>exact ⟨k+1,_,Oo,by go_num,HRX.out,HW4.o,HMC.o,HB4.o⟩
 case measure=>simp [intOf];omega):p:=h
theorem Kcz {p:Prop} (h:p:=by
 go_wp2_with fail
 go_loop [14] (fun q=>q=.int .i64 0) (fun _=>0)
 case atStart=>rfl
 case round =>
  subst hrel;go_wp2_with fail
  exact Kbd):p:=h
theorem Kda {p:Prop} (h:p:=by
 go_wp2_with fail
 go_roundw;case rel=>exact ⟨by trivial,k+1,Oo,by go_num,by rw [hx.out];simp⟩
 case measure=>simp [intOf];omega):p:=h
theorem Kdb {p:Prop} (h:p:=by
 go_wp2_with fail
 go_roundw;case rel=>exact ⟨Qag,k+1,Oo,by go_num,by rw [hx.out];simp⟩
 case measure=>simp [intOf];omega):p:=h
theorem Kdc {p:Prop} (h:p:=by obtain ⟨⟨cs,k1,k2,_⟩,_⟩:=h;exact ⟨⟨_,by rw [k1.cell];exact Array.getElem?_eq_getElem Oo⟩,k1.frozen i⟩):p:=h
theorem Kdd {p:Prop} (h:p:=by
 go_wp2_with fail
 go_roundw;case rel=>exact ⟨Qag,k+1,Oo,by go_num,by rw [hx.out]⟩
 case measure=>simp [intOf];omega):p:=h
theorem Kde {p:Prop} (h:p:=by obtain ⟨fuel,hf⟩:=h1;obtain ⟨Q,L,cq,ls,e1,e2,e3,e4⟩:=Qvb hf;exact ⟨Q,L,cq,ls,Array.toList_inj.1 e1,e2,Oo⟩):p:=h
theorem Kdf {p:Prop} (h:p:=by obtain ⟨j,hj,e⟩:=List.getElem_of_mem hu;obtain ⟨l,b,o,A,n',c',_,_,_,h3,_⟩:=hxs j u (by rw [Zg hj,e]);rw [h3];rfl):p:=h
theorem Kdg {p:Prop} (h:p:=by
 go_wp2_with fail
 go_roundw;case rel=>exact ⟨i+1,Oo,by go_num,HWX.out,HAk.o⟩
 case measure=>simp [intOf];omega):p:=h
theorem Kdh {p:Prop} (h:p:=by
 go_wp2_with fail
 go_roundw;case rel=>exact ⟨b+1,Oo,by go_num,HW5.o,HA5.o⟩
 case measure=>simp [intOf];omega):p:=h
theorem Kdi {p:Prop} (h:p:=by
 go_wp2_with fail
 rw [←HW1.o];have hR:=HRE.o;have hb:=HBL.o;with_reducible refine (Qdo _ _ _ _).mono ?_
 exact Kad):p:=h
theorem Kdj {p:Prop} (h:p:=by rw [Yg (by rw [HRL.o];exact htlt)] at hrl;exact (Yv hrl).symm):p:=h
theorem Kdk {p:Prop} (h:p:=by have h1:((i:Int)+1)*q≤p*q:=Int.mul_le_mul_of_nonneg_right Oo o0;rw [Int.add_mul,Int.one_mul] at h1;omega):p:=h
theorem Kdl {p:Prop} (h:p:=by exact ⟨fun p hp s hs=>(key p hp s hs).1,fun p hp s hs=>(key p hp s hs).2.1,fun p hp s hs=>(key p hp s hs).2.2⟩):p:=h
theorem Kdm {p:Prop} (h:p:=by clear a0 a1 a2 hi h;obtain ⟨c0,c1,c2,rfl⟩:=Qic hcl;simp at e0 e1 e2;exact ⟨(n0,n1,n2),by simp [e0,e1,e2]⟩):p:=h
theorem Kdn {p:Prop} (h:p:=by cases hl;exact ⟨A,n,c,by rw [Array.getElem?_setIfInBounds_self_of_lt Oo],hA.grown hgb hne,hne,h4,h5⟩):p:=h
theorem Kdo {p:Prop} (h:p:=by obtain ⟨b,o,e,hc⟩:=h.2 i _ (List.getElem?_eq_getElem hl);exact ⟨b,o,_,e,List.getElem?_eq_getElem hl,hc⟩):p:=h
theorem Kdp {p:Prop} (h:p:=by
 go_wp2_with fail
 exact Kax):p:=h
theorem Kdq {p:Prop} (h:p:=by
 have:((i*q.toNat+o:Nat):Int)=(k:Int):=by
  rw [hkk];push_cast
  rw [Int.toNat_of_nonneg o0]
 exact_mod_cast this):p:=h
theorem Kdr {p:Prop} (h:p:=by
 go_wp2_with fail
 go_roundw;case rel=>exact ⟨Qag,k+1,Oo,by go_num⟩
 case measure=>simp [intOf];omega):p:=h
theorem Kds {p:Prop} (h:p:=by
 go_roundw;case rel=>exact ⟨i+1,by go_num,Oo,HNO.o Oo⟩
 case measure=>simp [intOf];omega):p:=h
theorem Kdt {p:Prop} (h:p:=by go_ret;exact ⟨⟨false,rfl,fun h=>by cases h⟩,hbw2⟩):p:=h
theorem Kdu {p:Prop} (h:p:=by
 go_wp2_with fail
 go_ret;exact ⟨Qav HF.o.symm,rfl⟩):p:=h
theorem Kdv {p:Prop} (h:p:=by
 go_wp2_with fail
 go_ret;exact ⟨Qav HF.o.symm,Qag⟩):p:=h
theorem Kdw {p:Prop} (h:p:=by unfold Qey;rw [if_pos (by rw [HN.o];exact g)];rw [show ((z:Int)+1-1).toNat=z by omega,hx2];rfl):p:=h
theorem Kdx {p:Prop} (h:p:=by go_wp2;go_ret;refine ⟨_,rfl,⟨w.heap.size,0,Qwf c,rfl,?_,?_,?_,rfl⟩,Qag⟩;all_goals simp):p:=h
theorem Kdy {p:Prop} (h:p:=by refine ⟨Oo,Oo,fun e=>?_,fun e=>?_⟩;{have:=hab b e;omega};{have:=Qir e;omega}):p:=h
theorem Kdz {p:Prop} (h:p:=by unfold sortWorld;rw [grow_empty,show i+1-i=1 by omega];simp [List.eraseIdx_eq_take_drop_succ]):p:=h
theorem Qaj {w:World}{a:Addr}{v:Value}(h:w.cell? a=some v):a.block<w.heap.size:=by
 rcases Nat.lt_or_ge a.block w.heap.size with hlt|hge
 {exact hlt};{unfold World.cell? at h;rw [Array.getElem?_eq_none hge] at h;cases h}
theorem Qbd {B:Nat}{a w:World}(h:Below B a w)(n:Nat):Below B a (w.drewN n):=⟨h.os,h.tape,h.output,h.size,h.block⟩
theorem Zc {B:Nat}{w w':World}(h:Below B w w'){a:Addr}{v:Value}(hB:w.heap.size≤B)(hc:w.cell? a=some v):w'.cell? a=some v :=
 (h.cell (by have:=Qaj hc;omega)).trans hc
theorem Zb {w p q:World}(h:Bw w p)(g:Bw p q):Bw w q:=h.trans (g.mono h.size)
theorem Bel.same {w q:World}(h:Bw w q):Bw w q:=h
theorem Bel.alloc {w p:World}{o:Obj}(h:Bw w p):Bw w (p.alloc o):=Below.alloc h h.size o
def RdK (k:IntKind)(w:World)(A:Oz)(n:Nat)(l:Iz):Prop :=
 l.length=n∧∀ i x,l[i]?=some x→∃ b o,A=some ⟨b,o,none⟩∧w.cell? ⟨b,o+i,none⟩=some (.int k x)
abbrev RdI:=RdK .i64
theorem RdK.len {k:IntKind}{w:World}{A:Oz}{n:Nat}{l:Iz}(h:RdK k w A n l):l.length=n:=h.1
theorem RdK.at_ {k:IntKind}{w:World}{A:Oz}{n i:Nat}{l:Iz}(h:RdK k w A n l)(hi:i<n) :
 ∃ b o x,A=some ⟨b,o,none⟩∧l[i]?=some x∧w.cell? ⟨b,o+i,none⟩=some (.int k x):=by
 have hl:i<l.length:=by rw [h.1];exact hi
 exact Kdo
theorem RdK.below {k:IntKind}{w w':World}{A:Oz}{n:Nat}{l:Iz}(h:RdK k w A n l)(hb:Bw w w'):RdK k w' A n l :=
 ⟨h.1,fun i x hx=>by obtain ⟨b,o,e,hc⟩:=h.2 i x hx;exact ⟨b,o,e,Zc hb (Nat.le_refl _) hc⟩⟩
theorem RdK.keep {k:IntKind}{w w':World}{A:Oz}{n B:Nat}{l:Iz}(h:RdK k w A n l)(hb:Below B w w')(hB:w.heap.size≤B):RdK k w' A n l :=
 h.below (hb.mono hB)
def RdB (w:World)(A:Oz)(n:Nat)(l:List Bool):Prop :=
 l.length=n∧∀ i x,l[i]?=some x→∃ b o,A=some ⟨b,o,none⟩∧w.cell? ⟨b,o+i,none⟩=some (.bool x)
theorem RdB.at_ {w:World}{A:Oz}{n i:Nat}{l:List Bool}(h:RdB w A n l)(hi:i<n) :
 ∃ b o x,A=some ⟨b,o,none⟩∧l[i]?=some x∧w.cell? ⟨b,o+i,none⟩=some (.bool x):=by
 have hl:i<l.length:=by rw [h.1];exact hi
 exact Kdo
theorem RdB.below {w w':World}{A:Oz}{n:Nat}{l:List Bool}(h:RdB w A n l)(hb:Bw w w'):RdB w' A n l :=
 ⟨h.1,fun i x hx=>by obtain ⟨b,o,e,hc⟩:=h.2 i x hx;exact ⟨b,o,e,Zc hb (Nat.le_refl _) hc⟩⟩
def RdP (w:World)(A:Oz)(n:Nat) (l:Pz):Prop :=
 l.length=n∧∀ i x,l[i]?=some x→∃ b o,A=some ⟨b,o,none⟩∧w.cell? ⟨b,o+i*2,none⟩=some (.int .i64 x.1)∧w.cell? ⟨b,o+i*2+1,none⟩=some (.int .i64 x.2)
theorem RdP.at_ {w:World}{A:Oz}{n i:Nat} {l:Pz} (h:RdP w A n l) (hi:i<n) :
 ∃ b o x y,A=some ⟨b,o,none⟩∧l[i]?=some (x,y)∧w.cell? ⟨b,o+i*2,none⟩=some (.int .i64 x)∧w.cell? ⟨b,o+i*2+1,none⟩=some (.int .i64 y):=by
 have hl:i<l.length:=by rw [h.1];exact hi
 obtain ⟨b,o,e,hc⟩:=h.2 i _ (List.getElem?_eq_getElem hl);exact ⟨b,o,_,_,e,List.getElem?_eq_getElem hl,hc.1,hc.2⟩
theorem RdP.below {w w':World}{A:Oz}{n:Nat} {l:Pz} (h:RdP w A n l) (hb:Bw w w'):RdP w' A n l :=
 ⟨h.1,fun i x hx=>by obtain ⟨b,o,e,hc,hd⟩:=h.2 i x hx;exact ⟨b,o,e,Zc hb (Nat.le_refl _) hc,Zc hb (Nat.le_refl _) hd⟩⟩
def Blk (w:World)(g:Nat)(t:TypeId)(cs:Array Value):Prop:=w.heap[g]?=some (.cells cs t (0,0))
section
variable {w w':World} {g:Nat} {t:TypeId} {cs:Array Value}
theorem Blk.lt (h:Blk w g t cs):g<w.heap.size:=by
 rcases Nat.lt_or_ge g w.heap.size with hlt|hge
 {exact hlt};{unfold Blk at h;rw [Array.getElem?_eq_none hge] at h;cases h}
theorem Blk.cell (h:Blk w g t cs)(i:Nat):w.cell? ⟨g,i,none⟩=cs[i]?:=cell_of_row w g i cs t (0,0) h
theorem Blk.frozen (h:Blk w g t cs)(i:Nat):w.frozen? ⟨g,i,none⟩=false:=by unfold Blk at h;simp [World.frozen?,h]
theorem Blk.new (w:World)(t:TypeId)(cs:Array Value):Blk (w.alloc (.cells cs t)) w.heap.size t cs:=heap_alloc_new w _
theorem Blk.new' (w:World)(t:TypeId)(cs:Array Value){g:Nat}(h:g=w.heap.size):Blk (w.alloc (.cells cs t)) g t cs:=by subst h;exact Blk.new w t cs
theorem Blk.drewN (h:Blk w g t cs)(n:Nat):Blk (w.drewN n) g t cs:=h
theorem Blk.drew (h:Blk w g t cs):Blk w.drew g t cs:=h
theorem Blk.alloc (h:Blk w g t cs)(o:Obj):Blk (w.alloc o) g t cs:=(Below.heap_alloc w o g h.lt).trans h
theorem Blk.set_ (h:Blk w g t cs)(i:Nat)(u:Value):Blk (w.setCell ⟨g,i,none⟩ u) g t (cs.setIfInBounds i u):=by unfold Blk at h ⊢;simp [World.setCell,Array.getElem?_modify,h]
theorem Blk.far (h:Blk w g t cs){p:Addr}(hp:g≠p.block)(u:Value):Blk (w.setCell p u) g t cs:=(Below.heap_setCell w p u g hp).trans h
theorem Blk.below {B:Nat}(h:Blk w g t cs)(hb:Below B w w')(hg:g<B):Blk w' g t cs:=(hb.block g hg).trans h
end
def Qbg (z:Value)(n:Nat):Array Value:=(List.replicate n z).toArray
def Qbr (l:Iz):Array Value:=(l.map (Value.int .i64)).toArray
def Qdy (l:List Bool):Array Value:=(l.map Value.bool).toArray
theorem Qbx (n:Nat):Qbg (.int .i64 0) n=Qbr (List.replicate n 0):=by simp [Qbg,Qbr]
theorem Qil (n:Nat):Qbg (.bool false) n=Qdy (List.replicate n false):=by simp [Qbg,Qdy]
theorem Qzs (l:Iz)(i:Nat):(Qbr l)[i]?=(l[i]?).map (Value.int .i64):=by simp [Qbr]
theorem Rei (l:List Bool)(i:Nat):(Qdy l)[i]?=(l[i]?).map Value.bool:=by simp [Qdy]
theorem ints_set (l:Iz)(i:Nat)(x:Int):(Qbr l).setIfInBounds i (.int .i64 x)=Qbr (l.set i x):=by simp [Qbr,List.map_set]
theorem Rej (l:List Bool)(i:Nat)(x:Bool):(Qdy l).setIfInBounds i (.bool x)=Qdy (l.set i x):=by simp [Qdy,List.map_set]
theorem Blk.rdI {w:World}{g:Nat}{t:TypeId}{l:Iz} (h:Blk w g t (Qbr l)) {n:Nat} (hn:l.length=n):RdI w (some ⟨g,0,none⟩) n l :=
 ⟨hn,fun i x hx=>⟨g,0,rfl,by rw [Nat.zero_add,h.cell,Qzs,hx];rfl⟩⟩
theorem Blk.cellI {w:World}{g i:Nat}{t:TypeId}{l:Iz}{x:Int} (h:Blk w g t (Qbr l)) (hx:l[i]?=some x):w.cell? ⟨g,i,none⟩=some (.int .i64 x):=by rw [h.cell,Qzs,hx];rfl
theorem Blk.cellB {w:World}{g i:Nat}{t:TypeId}{l:List Bool}{x:Bool} (h:Blk w g t (Qdy l)) (hx:l[i]?=some x):w.cell? ⟨g,i,none⟩=some (.bool x):=by rw [h.cell,Rei,hx];rfl
theorem Qcv {P:Program}(t e:TypeId)(z:Value)(by_:Nat) (hinfo:(P.info? e).map (fun i=>(i.zero,i.size,i.bytes))=some (some z,1,by_)) (ht:P.underlying t=some (.slice e)) (hz1:z.cells=#[z])
 (n:Nat) (hb:by_*n≤281474976710656) (h63:n≤9223372036854775807) (kl kc:IntKind) (w:World) :
 (Instr.makeSlice t (.int kl (n:Int)) (.int kc (n:Int))).run P w=.ok (.slice (some ⟨w.heap.size,0,none⟩) n n) (w.alloc (.cells (Qbg z n) e)):=by
 obtain ⟨i,hi,hz,hs,hbb⟩:=info_parts hinfo
 have hb':(i.bytes:Int)*(n:Int)≤281474976710656:=by
  rw [hbb];have h:((by_*n:Nat):Int)≤281474976710656:=Oo
  rwa [Int.natCast_mul] at h
 have hr:=run_make (P:=P) w t e i z ht hi hz kl kc n n Oo Oo hb' Oo;simp only [Int.toNat_natCast] at hr;have hm:madeCells z.cells (n*i.size)=Qbg z n:=by{rw [hs,Nat.mul_one,hz1];apply Array.ext';rw [toList_madeCells_one];simp [Qbg]};rw [hm] at hr;exact hr
def cutA (s:Nat)(A:Oz)(m c:Nat):Oz:=if c=m then A else A.map (·.add (m*s))
theorem Rhu {P:Program}(t e:TypeId)(s:Nat) (ht:P.underlying t=some (.slice e)) (he:P.elem t=e) (hs:(P.info? e).map (·.size)=some s) (A:Oz) (n c m r:Nat) (hm:m≤n) (hr:n-m=r) (k:IntKind) (x:Int) (hx:x=m) (w:World) :
 (Instr.slice t (.slice A n c) (some (.int k x)) none none).run P w=.ok (.slice (cutA s A m c) r (c-m)) w:=by
 subst hx;subst hr;rw [run_slice_l (P:=P) w t A n c (by rw [he];exact ht) k m Oo Oo,he]
 cases hi:P.info? e with
 | none=>rw [hi] at hs;cases hs
 | some i =>rw [hi] at hs;simp at hs;simp [sizeOf,typeInfo,hi,Result.andThen,hs,sliced,cutA]
theorem RdK.cut {k:IntKind}{w:World}{A:Oz}{n m c r:Nat}{l:Iz}(h:RdK k w A n l)(hm:m≤n)(hr:n-m=r)(hc:n≤c):RdK k w (cutA 1 A m c) r (l.drop m) :=
 ⟨by rw [List.length_drop,h.1,hr],fun i x hx=>by
  rw [List.getElem?_drop] at hx;obtain ⟨b,o,rfl,hcell⟩:=h.2 _ x hx;have hlt:m+i<l.length:=(List.getElem?_eq_some_iff.1 hx).1
  rw [h.1] at hlt;unfold cutA;rw [if_neg Oo];refine ⟨b,o+m,?_,by rw [Nat.add_assoc];exact hcell⟩;simp only [Option.map_some,Addr.add]
  split
  · rename_i h0;rw [show m=0 by omega];rfl
  · simp⟩
theorem RdK.take {k:IntKind}{w:World}{A:Oz}{n m:Nat}{l:Iz}(h:RdK k w A n l)(hm:m≤n):RdK k w A m (l.take m) :=
 ⟨by rw [List.length_take,h.1];omega,fun i x hx=>h.2 i x (by rw [List.getElem?_take] at hx;split at hx;exact hx;cases hx)⟩
theorem Blk.setI {w:World}{g i:Nat}{t:TypeId}{l l':Iz}{x:Int} (h:Blk w g t (Qbr l)) (e:l.set i x=l'):Blk (w.setCell ⟨g,i,none⟩ (.int .i64 x)) g t (Qbr l'):=by have:=h.set_ i (.int .i64 x);rwa [ints_set,e] at this
theorem Blk.setB {w:World}{g i:Nat}{t:TypeId}{l l':List Bool}{x:Bool} (h:Blk w g t (Qdy l)) (e:l.set i x=l'):Blk (w.setCell ⟨g,i,none⟩ (.bool x)) g t (Qdy l'):=by have:=h.set_ i (.bool x);rwa [Rej,e] at this
theorem Qai {P:Program}{c:Code}{Q:Exit→Act→World→Prop}{a:Act}{w:World}(h:∀ W,W=w→c.wp P Q a W):c.wp P Q a w:=h w rfl
theorem Bel.setCell {w p:World}{a:Addr}{u:Value}(h:Bw w p)(hp:w.heap.size≤a.block):Bw w (p.setCell a u):=Below.setCell h hp u
theorem Zi {w p:World}{b o:Nat}{u:Value}(h:Bw w p)(hp:w.heap.size≤b):Bw w (p.setCell ⟨b,o,none⟩ u):=Below.setCell h hp u
theorem Blk.far_ {w:World}{g:Nat}{t:TypeId}{cs:Array Value}{b o:Nat}(h:Blk w g t cs)(hp:g≠b)(u:Value):Blk (w.setCell ⟨b,o,none⟩ u) g t cs:=h.far hp u
open Go.Extern Go.Extern.Stop Go.Stop
abbrev Qwf (c:Int):Value:=.iface 105 (.int .i64 c)
abbrev fltV (b o:Nat):Value:=.iface 106 (.pointer (some ⟨b,o,none⟩))
def Qci (w:World):Value→List (ByteArray×Int)→Int→Prop
 | v,[],c=>v=Qwf c
 | v,p::ps,c=>∃ b o u,v=fltV b o∧w.cell? ⟨b,o,none⟩=some (.string p.1)∧w.cell? ⟨b,o+1,none⟩=some (.int .i64 p.2)∧w.cell? ⟨b,o+2,none⟩=some u∧Qci w u ps c
theorem Qci.below {w w':World}(hb:Bw w w'):∀ {ps:List (ByteArray×Int)} {v:Value} {c:Int},Qci w v ps c→Qci w' v ps c
 | [],_,_,h=>h
 | _::_,_,_,h=>by obtain ⟨b,o,u,h1,h2,h3,h4,h5⟩:=h;exact ⟨b,o,u,h1,Zc hb (Nat.le_refl _) h2,Zc hb (Nat.le_refl _) h3,Zc hb (Nat.le_refl _) h4,Qci.below hb h5⟩
/-! closed facts -/
theorem Reu (v:Value)(w:World):(ReflectliteType.typeOf #[.iface 105 v]).run prog w=.ok (.iface 256 (.agg #[.pointer (some ⟨1,105,none⟩)])) w:=Kf
def erComp : Array Value → Sem Value := ReflectliteType.method fun t => do Rtype.noPackHeld "Comparable" t; pure (.bool (← typeInfo t).comparable)
theorem Qrm (w:World):(erComp #[.agg #[.pointer (some ⟨1,105,none⟩)]]).run prog w=.ok (.bool true) w:=Kf
theorem Qpt (v : Value) (w : World) : (Go.method 489 256 v "Comparable").run Tryz.prog w = .ok (284, v) w := by kernel_rfl
theorem er_noIs (v:Value)(xT:TypeId)(w:World):(Instr.typeAssert (.iface 105 v) xT 258 true).run prog w=.ok (.tuple #[.nilIface,.bool false]) w:=run_typeAssert_lacksB underlying258 Kf Kf v xT w
theorem er_noIsF (v:Value)(xT:TypeId)(w:World):(Instr.typeAssert (.iface 106 v) xT 258 true).run prog w=.ok (.tuple #[.nilIface,.bool false]) w:=run_typeAssert_lacksB underlying258 Kf Kf v xT w
theorem Qwz (v:Value)(xT:TypeId)(w:World):(Instr.typeAssert (.iface 105 v) xT 261 true).run prog w=.ok (.tuple #[.nilIface,.bool false]) w:=run_typeAssert_lacksB underlying261 Kf Kf v xT w
theorem Qub (v:Value)(xT:TypeId)(w:World):(Instr.typeAssert (.iface 105 v) xT 263 true).run prog w=.ok (.tuple #[.nilIface,.bool false]) w:=run_typeAssert_lacksB underlying263 Kf Kf v xT w
theorem er_noAs (v:Value)(xT:TypeId)(w:World):(Instr.typeAssert (.iface 105 v) xT 268 true).run prog w=.ok (.tuple #[.nilIface,.bool false]) w:=run_typeAssert_lacksB underlying268 Kf Kf v xT w
theorem Qrn (v:Value)(xT:TypeId)(w:World):(Instr.typeAssert (.iface 106 v) xT 261 true).run prog w=.ok (.tuple #[.iface 106 v,.bool true]) w:=run_typeAssert_hasB underlying261 Kf v xT w
theorem Rbs (v : Value) (w : World) : (Go.method 489 106 v "Unwrap").run Tryz.prog w = .ok (277, v) w := by kernel_rfl
theorem er_comp:(Tryz.prog.info? 105).map (·.comparable)=some true:=Kf
theorem er_eq (a b:Int)(w:World):(binOp .eql 47 (Qwf a) (Qwf b)).run prog w=.ok (.bool (a == b)) w:=Lib.run_eql_iface_int w a b underlying47 er_comp underlying105
theorem er_ne (p:Value)(b:Int)(w:World):(binOp .eql 47 (.iface 106 p) (Qwf b)).run prog w=.ok (.bool false) w:=run_eql_iface_types (P:=prog) 106 105 p (.int .i64 b) underlying47 Sd w
theorem Qnh {w:World}{v:Value} {ps:List (ByteArray×Int)} {c:Int} (h:Qci w v ps c):v=Qwf c∧ps=[]∨∃ b o u p t,v=fltV b o∧ps=p::t∧w.cell? ⟨b,o,none⟩=some (.string p.1)∧w.cell? ⟨b,o+1,none⟩=some (.int .i64 p.2)∧w.cell? ⟨b,o+2,none⟩=some u∧Qci w u t c:=by
 cases ps with
 | nil=>exact .inl ⟨h,rfl⟩
 | cons p t=>obtain ⟨b,o,u,h1,h2,h3,h4,h5⟩:=h;exact .inr ⟨b,o,u,p,t,h1,rfl,h2,h3,h4,h5⟩
theorem Qaw {w:World}{v:Value} {ps:List (ByteArray×Int)} {c:Int} (h:Qci w v ps c):∃ t x,v=.iface t x:=by rcases Qnh h with ⟨h,_⟩|⟨b,o,u,p,t,h,_⟩ <;> exact ⟨_,_,h⟩
theorem Qtu {w:World}:∀ {ps qs:List (ByteArray×Int)} {v:Value} {c d:Int},Qci w v ps c→Qci w v qs d→ps.length=qs.length
 | [],[],_,_,_,_,_=>rfl
 | [],_::_,_,_,_,h,g=>by obtain ⟨b,o,u,h1,_⟩:=g;unfold Qci at h;rw [h] at h1;cases h1
 | _::_,[],_,_,_,g,h=>by obtain ⟨b,o,u,h1,_⟩:=g;unfold Qci at h;rw [h] at h1;cases h1
 | _::_,_::_,_,_,_,h,g=>by
  obtain ⟨b,o,u,h1,_,_,h2,h3⟩:=h;obtain ⟨b',o',u',g1,_,_,g2,g3⟩:=g;rw [h1] at g1
  cases g1
  rw [h2] at g2
  cases g2
  simp [Qtu h3 g3]
noncomputable def Qmk (w:World) (v:Value):Nat:=by classical exact if h:∃ n c,∃ ps,Qci w v ps c∧ps.length=n then h.choose else 0
theorem Qwq {w:World} {ps:List (ByteArray×Int)} {v:Value} {c:Int} (h:Qci w v ps c):Qmk w v=ps.length:=by have hex:∃ n c,∃ ps,Qci w v ps c∧ps.length=n:=⟨_,c,ps,h,rfl⟩;unfold Qmk;rw [dif_pos hex];obtain ⟨d,qs,g,hl⟩:=hex.choose_spec;rw [←hl];exact Qtu g h
theorem Rdd (b o:Nat)(u:Value)(w:World)(h:w.cell? ⟨b,o+2,none⟩=some u) :
 Calls prog 277 #[.pointer (some ⟨b,o,none⟩)] w fun e w'=>e=.returned u∧w'=w:=by
 go_enter func277,ntmps277
 go_wp2;exact Kax
theorem is_loop (v:Value) (ps:List (ByteArray×Int)) (c:Int) (w:World) (h:Qci w v ps c) :
 Calls prog 99 #[v,Qwf c,.bool true] w fun e w'=>e=.returned (.bool true)∧w'=w:=by
 have nE:=er_noIs;have nF:=er_noIsF;have uF:=Qrn;have mU:=Rbs;have heq:=er_eq;have hne:=er_ne;have hCL:∀ (ps:List (ByteArray×Int)) (v:Value) (c:Int),Qci w v ps c→Qmk w v=ps.length:=fun _ _ _ h=>Qwq h
 have HCL:=Zh hCL;clear hCL;have HU:∀ (b o:Nat) (u:Value),w.cell? ⟨b,o+2,none⟩=some u→Calls prog 277 #[.pointer (some ⟨b,o,none⟩)] w fun e w'=>e=.returned u∧w'=w:=fun b o u h=>Rdd b o u w h
 have HU':=Zh HU;clear HU;go_enter func99,ntmps99
 go_wp2;go_loop [0] (fun i=>∃ qs,Qci w i qs c) (fun i=>Qmk w i)
 case atStart=>exact ⟨ps,h⟩
 case round =>
  obtain ⟨qs,hq⟩:=hrel;rcases Qnh hq with ⟨rfl,rfl⟩|⟨b,o,u,p,t,rfl,rfl,h1,h2,h3,h4⟩
  {clear hq h;go_wp2;exact Kax};{obtain ⟨tu,xu,rfl⟩:=Qaw h4;have e1:=HCL.o _ _ _ hq;have e2:=HCL.o _ _ _ h4;have E1:=Zh e1;clear e1;have E2:=Zh e2;clear e2;have H4:=Zh h4;clear h4;have h3':=h3;clear hq h;(go_wp2_with (go_at_call 277;refine (HU'.o b o _ h3).mono ?_;rintro e w' ⟨rfl,rfl⟩));(go_round);(case rel=>exact ⟨t,H4.o⟩);case measure=>rw [E1.out,E2.out];simp}
theorem errorsIs (v:Value) (ps:List (ByteArray×Int)) (c:Int) (w:World) (h:Qci w v ps c) :
 Calls prog 50 #[v,Qwf c] w fun e w'=>e=.returned (.bool true)∧w'=w:=by
 have h10:=@run_callFunc_extern prog 98 _ ReflectliteType.typeOf func98 Kf Kf Kf Kf;have h32:=@run_callFunc_extern prog 284 _ erComp func284 Kf Kf Kf Kf;have tT:=Reu;have cT:=Qrm;have mR:=Qpt;have HL:=Zh (is_loop v ps c w h);obtain ⟨tv,xv,rfl⟩:=Qaw h;clear h;go_enter func50,ntmps50
 go_wp2_with (go_at_call 99;refine (HL.o).mono ?_;rintro e w' ⟨rfl,rfl⟩)
 exact Kax
theorem Qze (z:Sem Value)(f:TypeId→Addr→Nat→Nat→Sem Value)(v:Value) :
 ReflectliteValue.method z f #[v]=(do match ←ReflectliteValue.parts v with|none=>z|some (t,a,fl)=>f t a fl (fl % 32)):=rfl
theorem as_rls (v x:Value):ReflectliteValue.set #[v,x]=(do
 let (some (dst,a,fl),some (src,b,_)):=(←ReflectliteValue.parts v,←ReflectliteValue.parts x)
  | unsupported (.noEntry "extern/(internal/reflectlite.Value).Set.zeroValue")
 if fl / ReflectliteValue.flagAddr % 2 == 0 then unsupported (.noEntry "extern/(internal/reflectlite.Value).Set.unaddressable")
 let val ←loadVar src b
 if ←Rtype.directlyAssignable dst src then storeVar dst a val
 else if ←Rtype.implements dst src then
  if (←Rtype.kind src) == 20 then
   match val with
   | .nilIface => unsupported (.noEntry "extern/reflectlite: a nil value of one interface type handed on as a value of another")
   | _=>storeVar dst a val
  else storeVar dst a (.iface src val)
 else panicString ("reflectlite.Set: value of type " ++ (← Rtype.spelt src) ++ " is not assignable to type " ++ (← Rtype.spelt dst))
 pure (.tuple #[])):=rfl
theorem Qrh (h : Value) (w : World) : (Go.method 489 256 (.agg #[h]) "Kind").run Tryz.prog w = .ok (272, h) w := by kernel_rfl
theorem Qrg (h : Value) (w : World) : (Go.method 489 256 (.agg #[h]) "Elem").run Tryz.prog w = .ok (285, .agg #[h]) w := by kernel_rfl
theorem Qfh (h : Value) (w : World) : (Go.method 489 256 (.agg #[h]) "Implements").run Tryz.prog w = .ok (286, .agg #[h]) w := by kernel_rfl
theorem Qee (h : Value) (w : World) : (Go.method 489 256 (.agg #[h]) "AssignableTo").run Tryz.prog w = .ok (283, .agg #[h]) w := by kernel_rfl
def Qpm:Value:=.iface 256 (.agg #[.pointer (some ⟨1,47,none⟩)])
abbrev rty (t:Nat):Value:=.agg #[.pointer (some ⟨1,t,none⟩)]
abbrev rtv (t:Nat):Value:=.iface 256 (rty t)
abbrev rvl (t:Nat) (a:Addr) (f:Int):Value:=.agg #[.pointer (some ⟨1,t,none⟩),.pointer (some a),.int .u64 f]
abbrev asW (t:Addr) (p:Nat) (w:World):World:=((w.alloc (.cells #[.pointer (some t)] p)).alloc (.cells #[.pointer (some ⟨1,p,none⟩),.pointer (some ⟨w.heap.size,0,none⟩),.int .u64 150] 185))
abbrev asX (t:Addr) (p:Nat) (w:World):World:=(asW t p w).alloc (.cells #[.pointer (some ⟨1,p,none⟩),.pointer (some ⟨w.heap.size,0,none⟩),.int .u64 150] 185)
/-! ### at **api.Fault -/
theorem Qls (t:Addr)(w:World):(ReflectliteValue.unpack (.iface 108 (.pointer (some t)))).run prog w=.ok (rvl 108 ⟨w.heap.size,0,none⟩ 150) (w.alloc (.cells #[.pointer (some t)] 108)):=Kf
theorem Qtr (a : Addr) (w : World) : (ReflectliteValue.methodAny (ReflectliteValue.valueError "reflectlite.Value.Type" 0) (fun t _ _ _ => ReflectliteType.toType t) #[rvl 108 a 150]).run Tryz.prog w = .ok (rtv 108) w := by kernel_rfl
theorem Qtq (w:World):((ReflectliteType.abiMethod fun t=>(fun a:Nat=>Value.int IntKind.u8 (a:Int)) <$> Rtype.kind t) #[.pointer (some ⟨1,108,none⟩)]).run prog w=.ok (.int .u8 22) w:=Kf
theorem Qzd (w:World):((ReflectliteType.abiMethod fun t=>(fun a:Nat=>Value.int IntKind.u8 (a:Int)) <$> Rtype.kind t) #[.pointer (some ⟨1,106,none⟩)]).run prog w=.ok (.int .u8 22) w:=Kf
theorem Qqe (a:Addr)(w:World):(ReflectliteValue.parts (rvl 108 a 150)).run prog w=.ok (some (108,a,150)) w:=Kf
theorem Qtp (a p:Addr)(W:World) (ha:W.cell? a=some (.pointer (some p))) :
 (ReflectliteValue.method (ReflectliteValue.valueError "reflectlite.Value.IsNil" 0) ReflectliteValue.isNil #[rvl 108 a 150]).run Tryz.prog W = .ok (.bool false) W := by
 rw [Qze];simp only [Sem.run_bind,Qqe,Result.andThen];simp [ReflectliteValue.isNil,loadVar,isAgg,underlying,underlying108,ha,Result.andThen]
theorem Qzc (w:World):(ReflectliteType.method ReflectliteType.elem #[rty 108]).run prog w=.ok (rtv 106) w:=Kf
theorem Qip (w : World) : (ReflectliteType.relation "Implements" ReflectliteType.implements_ #[rty 106, Qpm]).run Tryz.prog w = .ok (.bool true) w := by kernel_rfl
theorem Rbc (w:World):(Rtype.elem? 108).run prog w=.ok (some 106) w:=Kf
theorem as_mkF (p:Addr)(w:World):(ReflectliteValue.mk 106 p ReflectliteValue.flagAddr).run prog w=.ok (rvl 106 p 406) w:=Kf
theorem Rdz (a p:Addr)(W:World) (ha:W.cell? a=some (.pointer (some p))) :
 (ReflectliteValue.method (ReflectliteValue.valueError "reflectlite.Value.Elem" 0) ReflectliteValue.elem #[rvl 108 a 150]).run Tryz.prog W = .ok (rvl 106 p 406) W := by
 rw [Qze];simp only [Sem.run_bind,Qqe,Result.andThen];simp [ReflectliteValue.elem,loadVar,isAgg,underlying,underlying108,ha,Result.andThen,Rbc,as_mkF]
theorem Rbf (v:Value)(w:World):(ReflectliteType.typeOf #[.iface 106 v]).run prog w=.ok (rtv 106) w:=Kf
theorem Qpp (w : World) : (ReflectliteType.relation "AssignableTo" ReflectliteType.assignableTo #[rty 106, rtv 106]).run Tryz.prog w = .ok (.bool true) w := by kernel_rfl
theorem Qwp (e:Addr)(w:World):(ReflectliteValue.unpack (.iface 106 (.pointer (some e)))).run prog w=.ok (rvl 106 ⟨w.heap.size,0,none⟩ 150) (w.alloc (.cells #[.pointer (some e)] 106)):=Kf
theorem Rbe (a:Addr)(w:World):(ReflectliteValue.parts (rvl 106 a 406)).run prog w=.ok (some (106,a,406)) w:=Kf
theorem Red (a:Addr)(w:World):(ReflectliteValue.parts (rvl 106 a 150)).run prog w=.ok (some (106,a,150)) w:=Kf
theorem Rba (w:World):(Rtype.directlyAssignable 106 106).run prog w=.ok true w:=Kf
theorem as_setF (ta b:Addr)(e:Addr)(old:Value)(W:World) (hb:W.cell? b=some (.pointer (some e))) (ht:W.cell? ta=some old) (hf:W.frozen? ta=false) :
 (ReflectliteValue.set #[rvl 106 ta 406,rvl 106 b 150]).run prog W=.ok (.tuple #[]) (W.setCell ta (.pointer (some e))):=by rw [as_rls];simp only [Sem.run_bind,Rbe,Red,Result.andThen];simp [ReflectliteValue.flagAddr,loadVar,isAgg,underlying,underlying106,hb,Result.andThen,Rba,storeVar,Value.cells,storeCells,Addr.add];rw [run_store prog W ta _ _ (by rfl)];simp [ht,hf]
/-! ### at *api.Errno -/
theorem Qts (t:Addr)(w:World):(ReflectliteValue.unpack (.iface 113 (.pointer (some t)))).run prog w=.ok (rvl 113 ⟨w.heap.size,0,none⟩ 150) (w.alloc (.cells #[.pointer (some t)] 113)):=Kf
theorem Ree (a : Addr) (w : World) : (ReflectliteValue.methodAny (ReflectliteValue.valueError "reflectlite.Value.Type" 0) (fun t _ _ _ => ReflectliteType.toType t) #[rvl 113 a 150]).run Tryz.prog w = .ok (rtv 113) w := by kernel_rfl
theorem Reb (w:World):((ReflectliteType.abiMethod fun t=>(fun a:Nat=>Value.int IntKind.u8 (a:Int)) <$> Rtype.kind t) #[.pointer (some ⟨1,113,none⟩)]).run prog w=.ok (.int .u8 22) w:=Kf
theorem as_kindE (w:World):((ReflectliteType.abiMethod fun t=>(fun a:Nat=>Value.int IntKind.u8 (a:Int)) <$> Rtype.kind t) #[.pointer (some ⟨1,105,none⟩)]).run prog w=.ok (.int .u8 2) w:=Kf
theorem Qqd (a:Addr)(w:World):(ReflectliteValue.parts (rvl 113 a 150)).run prog w=.ok (some (113,a,150)) w:=Kf
theorem Rea (a p:Addr)(W:World) (ha:W.cell? a=some (.pointer (some p))) :
 (ReflectliteValue.method (ReflectliteValue.valueError "reflectlite.Value.IsNil" 0) ReflectliteValue.isNil #[rvl 113 a 150]).run Tryz.prog W = .ok (.bool false) W := by
 rw [Qze];simp only [Sem.run_bind,Qqd,Result.andThen];simp [ReflectliteValue.isNil,loadVar,isAgg,underlying,underlying113,ha,Result.andThen]
theorem as_elemE (w:World):(ReflectliteType.method ReflectliteType.elem #[rty 113]).run prog w=.ok (rtv 105) w:=Kf
theorem Qpr (w : World) : (ReflectliteType.relation "Implements" ReflectliteType.implements_ #[rty 105, Qpm]).run Tryz.prog w = .ok (.bool true) w := by kernel_rfl
theorem Rbb (w:World):(Rtype.elem? 113).run prog w=.ok (some 105) w:=Kf
theorem as_mkE (p:Addr)(w:World):(ReflectliteValue.mk 105 p ReflectliteValue.flagAddr).run prog w=.ok (rvl 105 p 386) w:=Kf
theorem Rdx (a p:Addr)(W:World) (ha:W.cell? a=some (.pointer (some p))) :
 (ReflectliteValue.method (ReflectliteValue.valueError "reflectlite.Value.Elem" 0) ReflectliteValue.elem #[rvl 113 a 150]).run Tryz.prog W = .ok (rvl 105 p 386) W := by
 rw [Qze];simp only [Sem.run_bind,Qqd,Result.andThen];simp [ReflectliteValue.elem,loadVar,isAgg,underlying,underlying113,ha,Result.andThen,Rbb,as_mkE]
theorem Qqf (v:Value)(w:World):(ReflectliteType.typeOf #[.iface 105 v]).run prog w=.ok (rtv 105) w:=Kf
theorem Qpo (w : World) : (ReflectliteType.relation "AssignableTo" ReflectliteType.assignableTo #[rty 105, rtv 105]).run Tryz.prog w = .ok (.bool true) w := by kernel_rfl
theorem Qwo (c:Int)(w:World):(ReflectliteValue.unpack (.iface 105 (.int .i64 c))).run prog w=.ok (rvl 105 ⟨w.heap.size,0,none⟩ 130) (w.alloc (.cells #[.int .i64 c] 105)):=Kf
theorem Rbd (a:Addr)(w:World):(ReflectliteValue.parts (rvl 105 a 386)).run prog w=.ok (some (105,a,386)) w:=Kf
theorem Rec (a:Addr)(w:World):(ReflectliteValue.parts (rvl 105 a 130)).run prog w=.ok (some (105,a,130)) w:=Kf
theorem Raz (w:World):(Rtype.directlyAssignable 105 105).run prog w=.ok true w:=Kf
theorem as_setE (ta b:Addr)(c:Int)(old:Value)(W:World) (hb:W.cell? b=some (.int .i64 c)) (ht:W.cell? ta=some old) (hf:W.frozen? ta=false) :
 (ReflectliteValue.set #[rvl 105 ta 386,rvl 105 b 130]).run prog W=.ok (.tuple #[]) (W.setCell ta (.int .i64 c)):=by rw [as_rls];simp only [Sem.run_bind,Rbd,Rec,Result.andThen];simp [ReflectliteValue.flagAddr,loadVar,isAgg,underlying,underlying105,hb,Result.andThen,Raz,storeVar,Value.cells,storeCells,Addr.add];rw [run_store prog W ta _ _ (by rfl)];simp [ht,hf]
theorem as_hitF (e:Addr)(t:Addr)(old:Value)(w:World)(hg:w.cell? ⟨0,0,none⟩=some Qpm)(ht0:w.cell? t=some old)(hf0:w.frozen? t=false) :
 Calls prog 51 #[.iface 106 (.pointer (some e)),.iface 108 (.pointer (some t))] w fun ev w'=>ev=.returned (.bool true)∧w'=((asX t 108 w).alloc (.cells #[.pointer (some e)] 106)).setCell t (.pointer (some e)):=by
 have h6:=@run_callFunc_extern prog 100 _ (fun args=>ReflectliteValue.unpack (args.getD 0 (.tuple #[]))) func100 Kf Kf Kf Kf;have h7 := @run_callFunc_extern Tryz.prog 101 _ (ReflectliteValue.methodAny (ReflectliteValue.valueError "reflectlite.Value.Type" 0) (fun t _ _ _ => ReflectliteType.toType t)) Tryz.func101 Kf Kf Kf Kf
 have h8 := @run_callFunc_extern Tryz.prog 102 _ (ReflectliteValue.method (ReflectliteValue.valueError "reflectlite.Value.IsNil" 0) ReflectliteValue.isNil) Tryz.func102 Kf Kf Kf Kf
 have h27:=@run_callFunc_extern prog 272 _ (ReflectliteType.abiMethod fun t=>do pure (.int .u8 (←Rtype.kind t))) func272 Kf Kf Kf Kf;have h37:=@run_callFunc_extern prog 285 _ (ReflectliteType.method ReflectliteType.elem) func285 Kf Kf Kf Kf;have h38 := @run_callFunc_extern Tryz.prog 286 _ (ReflectliteType.relation "Implements" ReflectliteType.implements_) Tryz.func286 Kf Kf Kf Kf
 have h10:=@run_callFunc_extern prog 98 _ ReflectliteType.typeOf func98 Kf Kf Kf Kf;have h35 := @run_callFunc_extern Tryz.prog 283 _ (ReflectliteType.relation "AssignableTo" ReflectliteType.assignableTo) Tryz.func283 Kf Kf Kf Kf
 have h11 := @run_callFunc_extern Tryz.prog 153 _ (ReflectliteValue.method (ReflectliteValue.valueError "reflectlite.Value.Elem" 0) ReflectliteValue.elem) Tryz.func153 Kf Kf Kf Kf
 have h12:=@run_callFunc_extern prog 154 _ ReflectliteValue.set func154 Kf Kf Kf Kf;have mA:=Qee;have mK:=Qrh;have mE:=Qrg;have mI:=Qfh;have tO:=Rbf;have aS:=Qpp;have vO:=Qwp;have f6:=Qls;have f7:=Qtr;have kP:=Qtq;have kE:=Qzd;have eL:=Qzc;have iM:=Qip;have n8:=Qtp ⟨w.heap.size,0,none⟩ t (asW t 108 w) Sm;have hlt:0<w.heap.size:=Qaj hg
 have htl:t.block<w.heap.size:=Qaj ht0
 have hg2:(asW t 108 w).cell? ⟨0,0,none⟩=some Qpm:=by{exact Kby};have el:=Rdz ⟨w.heap.size,0,none⟩ t (asX t 108 w) (by rw [World.cell?_alloc_lt _ _ ⟨w.heap.size,0,none⟩ (by simp;omega)];simp)
 have st:=as_setF t ⟨w.heap.size+1+1+1,0,none⟩ e old ((asX t 108 w).alloc (.cells #[.pointer (some e)] 106))
  (by rw [World.cell?_alloc_at _ _ _ _ Sm];rfl)
  (by rw [World.cell?_alloc_lt _ _ t (by simp;omega),World.cell?_alloc_lt _ _ t (by simp;omega),World.cell?_alloc_lt _ _ t (by simp;omega),World.cell?_alloc_lt _ _ t htl];exact ht0)
  (by rw [World.frozen?_alloc_old _ _ t (by simp;omega),World.frozen?_alloc_old _ _ t (by simp;omega),World.frozen?_alloc_old _ _ t (by simp;omega),World.frozen?_alloc_old _ _ t (Nat.ne_of_lt htl)];exact hf0)
 exact Kcm
theorem as_hitE (c:Int)(t:Addr)(old:Value)(w:World)(hg:w.cell? ⟨0,0,none⟩=some Qpm)(ht0:w.cell? t=some old)(hf0:w.frozen? t=false) :
 Calls prog 51 #[.iface 105 (.int .i64 c),.iface 113 (.pointer (some t))] w fun ev w'=>ev=.returned (.bool true)∧w'=((asX t 113 w).alloc (.cells #[.int .i64 c] 105)).setCell t (.int .i64 c):=by
 have h6:=@run_callFunc_extern prog 100 _ (fun args=>ReflectliteValue.unpack (args.getD 0 (.tuple #[]))) func100 Kf Kf Kf Kf;have h7 := @run_callFunc_extern Tryz.prog 101 _ (ReflectliteValue.methodAny (ReflectliteValue.valueError "reflectlite.Value.Type" 0) (fun t _ _ _ => ReflectliteType.toType t)) Tryz.func101 Kf Kf Kf Kf
 have h8 := @run_callFunc_extern Tryz.prog 102 _ (ReflectliteValue.method (ReflectliteValue.valueError "reflectlite.Value.IsNil" 0) ReflectliteValue.isNil) Tryz.func102 Kf Kf Kf Kf
 have h27:=@run_callFunc_extern prog 272 _ (ReflectliteType.abiMethod fun t=>do pure (.int .u8 (←Rtype.kind t))) func272 Kf Kf Kf Kf;have h37:=@run_callFunc_extern prog 285 _ (ReflectliteType.method ReflectliteType.elem) func285 Kf Kf Kf Kf;have h38 := @run_callFunc_extern Tryz.prog 286 _ (ReflectliteType.relation "Implements" ReflectliteType.implements_) Tryz.func286 Kf Kf Kf Kf
 have h10:=@run_callFunc_extern prog 98 _ ReflectliteType.typeOf func98 Kf Kf Kf Kf;have h35 := @run_callFunc_extern Tryz.prog 283 _ (ReflectliteType.relation "AssignableTo" ReflectliteType.assignableTo) Tryz.func283 Kf Kf Kf Kf
 have h11 := @run_callFunc_extern Tryz.prog 153 _ (ReflectliteValue.method (ReflectliteValue.valueError "reflectlite.Value.Elem" 0) ReflectliteValue.elem) Tryz.func153 Kf Kf Kf Kf
 have h12:=@run_callFunc_extern prog 154 _ ReflectliteValue.set func154 Kf Kf Kf Kf;have mA:=Qee;have mK:=Qrh;have mE:=Qrg;have mI:=Qfh;have tO:=Qqf;have aS:=Qpo;have vO:=Qwo;have f6:=Qts;have f7:=Ree;have kP:=Reb;have kE:=as_kindE;have eL:=as_elemE;have iM:=Qpr;have n8:=Rea ⟨w.heap.size,0,none⟩ t (asW t 113 w) Sm;have hlt:0<w.heap.size:=Qaj hg
 have htl:t.block<w.heap.size:=Qaj ht0
 have hg2:(asW t 113 w).cell? ⟨0,0,none⟩=some Qpm:=by{exact Kby};have el:=Rdx ⟨w.heap.size,0,none⟩ t (asX t 113 w) (by rw [World.cell?_alloc_lt _ _ ⟨w.heap.size,0,none⟩ (by simp;omega)];simp)
 have st:=as_setE t ⟨w.heap.size+1+1+1,0,none⟩ c old ((asX t 113 w).alloc (.cells #[.int .i64 c] 105))
  (by rw [World.cell?_alloc_at _ _ _ _ Sm];rfl)
  (by rw [World.cell?_alloc_lt _ _ t (by simp;omega),World.cell?_alloc_lt _ _ t (by simp;omega),World.cell?_alloc_lt _ _ t (by simp;omega),World.cell?_alloc_lt _ _ t htl];exact ht0)
  (by rw [World.frozen?_alloc_old _ _ t (by simp;omega),World.frozen?_alloc_old _ _ t (by simp;omega),World.frozen?_alloc_old _ _ t (by simp;omega),World.frozen?_alloc_old _ _ t (Nat.ne_of_lt htl)];exact hf0)
 exact Kcm
theorem Qpq (w : World) : (ReflectliteType.relation "AssignableTo" ReflectliteType.assignableTo #[rty 105, rtv 106]).run Tryz.prog w = .ok (.bool false) w := by kernel_rfl
theorem as_miss (c:Int)(t:Addr)(w:World)(hg:w.cell? ⟨0,0,none⟩=some Qpm) :
 Calls prog 51 #[Qwf c,.iface 108 (.pointer (some t))] w fun ev w'=>ev=.returned (.bool false)∧w'=asX t 108 w:=by
 have h6:=@run_callFunc_extern prog 100 _ (fun args=>ReflectliteValue.unpack (args.getD 0 (.tuple #[]))) func100 Kf Kf Kf Kf;have h7 := @run_callFunc_extern Tryz.prog 101 _ (ReflectliteValue.methodAny (ReflectliteValue.valueError "reflectlite.Value.Type" 0) (fun t _ _ _ => ReflectliteType.toType t)) Tryz.func101 Kf Kf Kf Kf
 have h8 := @run_callFunc_extern Tryz.prog 102 _ (ReflectliteValue.method (ReflectliteValue.valueError "reflectlite.Value.IsNil" 0) ReflectliteValue.isNil) Tryz.func102 Kf Kf Kf Kf
 have h27:=@run_callFunc_extern prog 272 _ (ReflectliteType.abiMethod fun t=>do pure (.int .u8 (←Rtype.kind t))) func272 Kf Kf Kf Kf;have h37:=@run_callFunc_extern prog 285 _ (ReflectliteType.method ReflectliteType.elem) func285 Kf Kf Kf Kf;have h38 := @run_callFunc_extern Tryz.prog 286 _ (ReflectliteType.relation "Implements" ReflectliteType.implements_) Tryz.func286 Kf Kf Kf Kf
 have h10:=@run_callFunc_extern prog 98 _ ReflectliteType.typeOf func98 Kf Kf Kf Kf;have h35 := @run_callFunc_extern Tryz.prog 283 _ (ReflectliteType.relation "AssignableTo" ReflectliteType.assignableTo) Tryz.func283 Kf Kf Kf Kf
 have h11 := @run_callFunc_extern Tryz.prog 153 _ (ReflectliteValue.method (ReflectliteValue.valueError "reflectlite.Value.Elem" 0) ReflectliteValue.elem) Tryz.func153 Kf Kf Kf Kf
 have h12:=@run_callFunc_extern prog 154 _ ReflectliteValue.set func154 Kf Kf Kf Kf;have mA:=Qee;have mK:=Qrh;have mE:=Qrg;have mI:=Qfh;have tO:=Qqf;have aS:=Qpq;have f6:=Qls;have f7:=Qtr;have kP:=Qtq;have kE:=Qzd;have eL:=Qzc;have iM:=Qip;have nA:=er_noAs;have nU:=Qwz;have nV:=Qub;have n8:=Qtp ⟨w.heap.size,0,none⟩ t (asW t 108 w) Sm;have hlt:0<w.heap.size:=Qaj hg
 have hg2:(asW t 108 w).cell? ⟨0,0,none⟩=some Qpm:=by{exact Kby};exact Kcm
end Go.Proofs.YtkaaakbejnlbgaaGreatDoor
namespace Go.Proofs.YtkaaakbejnlbgaaGreatDoor
open Go.RowKit Go.Proofs.Tryz
theorem add_mk (b o j:Nat):(⟨b,o,none⟩:Addr).add j=⟨b,o+j,none⟩:=by cases j <;> simp [Addr.add]
def Rds (w:World)(s:Nat)(A:Oz)(m:Nat)(xs:List Value):Prop :=
 xs.length=m*s∧∀ j u,xs[j]?=some u→∃ b o,A=some ⟨b,o,none⟩∧w.cell? ⟨b,o+j,none⟩=some u
theorem Rds.below {w w':World}{s m:Nat}{A:Oz}{xs:List Value}(h:Rds w s A m xs)(hb:Bw w w'):Rds w' s A m xs :=
 ⟨h.1,fun i x hx=>by obtain ⟨b,o,e,hc⟩:=h.2 i x hx;exact ⟨b,o,e,Zc hb (Nat.le_refl _) hc⟩⟩
theorem Blk.rds {w:World}{g s m:Nat}{t:TypeId}{cs:Array Value}(h:Blk w g t cs)(hl:cs.size=m*s):Rds w s (some ⟨g,0,none⟩) m cs.toList :=
 ⟨by simpa using hl,fun j u hu=>⟨g,0,rfl,by rw [Nat.zero_add,h.cell];simpa using hu⟩⟩
theorem RdK.rds {k:IntKind}{w:World}{n:Nat}{A:Oz}{l:Iz}(h:RdK k w A n l):Rds w 1 A n (l.map (Value.int k)) :=
 ⟨by simp [h.1],fun j u hu=>by
  rw [List.getElem?_map] at hu
  cases hx:l[j]? with
  | none=>rw [hx] at hu;cases hu
  | some x=>rw [hx] at hu;cases hu;exact h.2 j x hx⟩
theorem RdB.rds {w:World}{n:Nat}{A:Oz}{l:List Bool}(h:RdB w A n l):Rds w 1 A n (l.map Value.bool) :=
 ⟨by simp [h.1],fun j u hu=>by
  rw [List.getElem?_map] at hu
  cases hx:l[j]? with
  | none=>rw [hx] at hu;cases hu
  | some x=>rw [hx] at hu;cases hu;exact h.2 j x hx⟩
def Qcj:Pz→List Value
 | []=>[]
 | p::t=>.int .i64 p.1::.int .i64 p.2::Qcj t
theorem Qli:∀ l:Pz,(Qcj l).length=l.length*2
 | []=>rfl
 | _::t=>by simp [Qcj,Qli t];omega
theorem Qlh:∀ l m:Pz,Qcj (l ++m)=Qcj l ++Qcj m
 | [],_=>rfl
 | p::t,m=>by simp [Qcj,Qlh t m]
theorem Qqr:∀ {l:Pz} {i:Nat} {p:Int×Int},l[i]?=some p→(Qcj l)[i*2]?=some (.int .i64 p.1)∧(Qcj l)[i*2+1]?=some (.int .i64 p.2)
 | [],i,p,h=>by simp at h
 | q::t,0,p,h=>by simp at h;subst h;simp [Qcj]
 | q::t,i+1,p,h=>by have:=Qqr (l:=t) (i:=i) (p:=p) (by simpa using h);rw [show (i+1)*2=i*2+1+1 by omega];simpa [Qcj] using this
theorem Qoj:∀ {l:Pz} {j:Nat} {u:Value},(Qcj l)[j]?=some u→∃ p,l[j / 2]?=some p∧((j % 2=0∧u=.int .i64 p.1)∨(j % 2=1∧u=.int .i64 p.2))
 | [],j,u,h=>by simp [Qcj] at h
 | q::t,0,u,h=>by simp [Qcj] at h;exact ⟨q,Sm,.inl ⟨rfl,h.symm⟩⟩
 | q::t,1,u,h=>by simp [Qcj] at h;exact ⟨q,Sm,.inr ⟨rfl,h.symm⟩⟩
 | q::t,j+2,u,h=>by obtain ⟨p,h1,h2⟩:=Qoj (l:=t) (j:=j) (u:=u) (by simpa [Qcj] using h);refine ⟨p,?_,?_⟩;{rw [show (j+2) / 2=j / 2+1 by omega];simpa using h1};{rw [show (j+2) % 2=j % 2 by omega];exact h2}
theorem RdP.rds {w:World}{n:Nat}{A:Oz} {l:Pz} (h:RdP w A n l):Rds w 2 A n (Qcj l) :=
 ⟨by rw [Qli,h.1],fun j u hu=>by
  obtain ⟨p,hp,hu'⟩:=Qoj hu;obtain ⟨b,o,e,h1,h2⟩:=h.2 _ p hp;refine ⟨b,o,e,?_⟩
  rcases hu' with ⟨hm,rfl⟩|⟨hm,rfl⟩
  · rw [show o+j=o+j / 2*2 by omega];exact h1
  · rw [show o+j=o+j / 2*2+1 by omega];exact h2⟩
theorem Rds.rdP {w:World}{n:Nat}{A:Oz} {l:Pz} (h:Rds w 2 A n (Qcj l)):RdP w A n l :=
 ⟨by have:=h.1;rw [Qli] at this;omega,fun i p hp=>by
  obtain ⟨h1,h2⟩:=Qqr hp;obtain ⟨b,o,e,c1⟩:=h.2 _ _ h1;obtain ⟨b',o',e',c2⟩:=h.2 _ _ h2;rw [e] at e';cases e'
  exact ⟨b,o,e,c1,by rw [Nat.add_assoc];exact c2⟩⟩
theorem Rds.rdK {k:IntKind}{w:World}{n:Nat}{A:Oz}{l:Iz} (h:Rds w 1 A n (l.map (Value.int k))):RdK k w A n l :=
 ⟨by have:=h.1;simpa using this,fun i x hx=>h.2 i _ (by rw [List.getElem?_map,hx];rfl)⟩
theorem Rcl (l:Pz):∀ u∈Qcj l,u.oneCell'=true:=by intro u hu;obtain ⟨j,hj,e⟩:=List.getElem_of_mem hu;obtain ⟨p,_,h⟩:=Qoj (l:=l) (j:=j) (u:=u) (by rw [List.getElem?_eq_getElem hj,e]);rcases h with ⟨_,rfl⟩|⟨_,rfl⟩ <;> rfl
theorem ints_one (k:IntKind)(l:Iz):∀ u∈l.map (Value.int k),u.oneCell'=true:=by intro u hu;obtain ⟨x,_,rfl⟩:=List.mem_map.1 hu;rfl
def Qae (l:Iz):List Value:=l.map (Value.int .i64)
theorem Qbq (l m:Iz):Qae (l ++m)=Qae l ++Qae m:=by simp [Qae]
theorem Rds.rdI {w:World}{n:Nat}{A:Oz}{l:Iz} (h:Rds w 1 A n (Qae l)):RdI w A n l:=Rds.rdK h
theorem RdK.rdsI {w:World}{n:Nat}{A:Oz}{l:Iz}(h:RdI w A n l):Rds w 1 A n (Qae l):=RdK.rds h
theorem Qaq (l:Iz):∀ u∈Qae l,u.oneCell'=true:=ints_one .i64 l
def Qaa (A:Oz):Option Nat:=A.map (·.block)
def Own (w:World)(B:Nat)(e:TypeId)(s:Nat)(A:Oz)(n c:Nat)(xs:List Value):Prop:=w.ownsRow B e s (.slice A n c) n xs
section
variable {w w':World} {B s n c:Nat} {e:TypeId} {A:Oz} {xs:List Value}
theorem Own.nil (w:World)(B s:Nat)(e:TypeId):Own w B e s none 0 0 []:=World.ownsRow_nil w B e s
theorem Own.lit (w:World)(cs:Array Value)(n:Nat)(hb:B≤w.heap.size)(hm:n≤9223372036854775807)(hs:cs.size=n*s):Own (w.alloc (.cells cs e)) B e s (some ⟨w.heap.size,0,none⟩) n n cs.toList :=
 World.ownsRow_lit w cs n hb (by unfold maxLen;omega) hs
theorem Own.drewN (h:Own w B e s A n c xs)(k:Nat):Own (w.drewN k) B e s A n c xs:=h
theorem Own.drew (h:Own w B e s A n c xs):Own w.drew B e s A n c xs:=h
theorem Own.alloc (h:Own w B e s A n c xs)(o:Obj):Own (w.alloc o) B e s A n c xs:=World.ownsRow.alloc h o
theorem Own.lt (h:Own w B e s A n c xs):∀ k,Qaa A=some k→B≤k∧k<w.heap.size:=by
 intro k hk;have:=World.ownsRow.lt h k
 cases A with
 | none=>cases hk
 | some a=>exact this hk
theorem Own.below (h:Own w B e s A n c xs)(hb:Bw w w'):Own w' B e s A n c xs:=by
 refine World.ownsRow.kept (row:=none) h ⟨hb.os,hb.tape,hb.output,hb.size,fun k hk _=>hb.block k hk⟩ ?_
 cases A with
 | none=>exact .inl rfl
 | some a=>exact .inr (by simp [Value.ownBlock])
theorem Own.far (h:Own w B e s A n c xs){row:Option Nat}(hg:w.grownBy w' row)(hne:Qaa A=none∨Qaa A≠row):Own w' B e s A n c xs:=by
 refine World.ownsRow.kept h hg ?_
 cases A with
 | none=>exact .inl rfl
 | some a=>rcases hne with h | h;cases h;exact .inr h
theorem Own.rds (h:Own w B e s A n c xs):Rds w s A n xs:=by
 refine ⟨h.1,fun j u hu=>?_⟩;have hc:=h;rcases h.2 with ⟨h',h0⟩|⟨g,cap,cur,h',_,_⟩
 {have:=h.1;rw [h0,Nat.zero_mul] at this;rw [List.eq_nil_of_length_eq_zero this] at hu;cases hu};{cases h';have:=World.ownsRow.cells hc (g:=g) rfl j u hu;rw [add_mk] at this;exact ⟨g,0,rfl,this⟩}
theorem Own.shape {v:Value}(h:w.ownsRow B e s v n xs):∃ A c,v=.slice A n c:=by
 rcases h.2 with ⟨rfl,rfl⟩|⟨g,cap,cur,rfl,_⟩
 {exact ⟨_,_,rfl⟩};{exact ⟨_,_,rfl⟩}
theorem Own.cap (h:Own w B e s A n c xs):n≤c:=by
 rcases h.2 with ⟨h',h0⟩|⟨g,cap,cur,h1,_,_,h3,_⟩
 {cases h';omega};{cases h1;exact h3}
theorem Own.mono (h:Own w B e s A n c xs){B':Nat}(hB:B'≤B):Own w B' e s A n c xs:=by
 refine ⟨h.1,?_⟩;rcases h.2 with h'|⟨g,cap,cur,h1,h2,h3⟩
 {exact .inl h'};{exact .inr ⟨g,cap,cur,h1,Oo,h3⟩}
end
section
variable {P:Program}
theorem run_app (w:World)(t ty e:TypeId)(z:Value)(s by_:Nat) (hinfo:(P.info? e).map (fun i=>(i.zero,i.size,i.bytes))=some (some z,s,by_)) (ht:P.underlying t=some (.slice e)) (hzs:z.cells.size=s) (hs0:0<s)
 {B n c m c2:Nat} {A X:Oz} {xs news:List Value} (hown:Own w B e s A n c xs) (hr:Rds w s X m news) (h1:∀ u∈news,u.oneCell'=true)
 (hn:(n+m)*by_≤140737488355328) (hnm:n+m≤9223372036854775807) (hB:B≤w.heap.size) :
 ∃ A' c' w',(Builtin.append_ #[t,t] ty #[.slice A n c,.slice X m c2]).run P w=.ok (.slice A' (n+m) c') w'∧Own w' B e s A' (n+m) c' (xs ++news)∧w.grownBy w' (Qaa A)∧(Qaa A'=Qaa A∨Qaa A'=some w.heap.size):=by
 obtain ⟨i,hi,hz,hs,hb⟩:=info_parts hinfo;have hob:∀ (Y:Oz) (k d:Nat),(Value.slice Y k d).ownBlock=Qaa Y:=fun Y k d=>by cases Y <;> rfl
 cases hm:news with
 | nil =>
  have hm0:m=0:=by{have:=hr.1;rw [hm] at this;(rcases Nat.eq_zero_or_pos m with h0|h0);{exact h0};{(have:0<m*s:=Nat.mul_pos h0 hs0);simp at *;omega}};subst hm0
  cases X with
  | none =>refine ⟨A,c,w,?_,by simpa using hown,World.grownBy.refl w _,.inl rfl⟩;(rcases hown.2 with ⟨h',h0⟩|⟨g,cap,cur,h',_,_,hnc,_⟩);{cases h';simp [Builtin.append_,run_underlying ht,sizeOf,typeInfo,hi,Builtin.lenOf,Builtin.firstCells]};{cases h';simp [Builtin.append_,run_underlying ht,sizeOf,typeInfo,hi,Builtin.lenOf,Builtin.firstCells,hnc,storeCells]}
  | some ad =>obtain ⟨v',w',hrun,h2,h3,_,h5⟩:=run_append_own_at (P:=P) w B t ty e i z s by_ ht hi hz hs hb hzs hs0 _ n xs hown ad 0 c2 [] Sm (fun j u hu=>by cases hu) (fun u hu=>by cases hu) (by unfold maxLen;omega) hn hB;obtain ⟨A',c',rfl⟩:=Own.shape h2;rw [hob,hob] at h5;rw [hob] at h3;exact ⟨A',c',w',hrun,h2,h3,h5⟩
 | cons u0 tl =>
  obtain ⟨b,o,rfl,_⟩:=hr.2 0 u0 (by rw [hm];rfl);rw [←hm]
  obtain ⟨v',w',hrun,h2,h3,_,h5⟩:=run_append_own_at (P:=P) w B t ty e i z s by_ ht hi hz hs hb hzs hs0 _ n xs hown ⟨b,o,none⟩ m c2 news hr.1
   (fun j u hu=>by obtain ⟨b',o',e',hc⟩:=hr.2 j u hu;cases e';rw [add_mk];exact hc) h1 (by unfold maxLen;omega) hn hB
  obtain ⟨A',c',rfl⟩:=Own.shape h2;rw [hob,hob] at h5;rw [hob] at h3;exact ⟨A',c',w',hrun,h2,h3,h5⟩
theorem Rim {w:World}{o:Oper}{a:Act}{K:Act→World→Prop}{Q:Exit→Act→World→Prop}(s x:Operand)(t:TypeId)
 (ho:o.op=.call { callee:=.builtin .append,args:=#[s,x],argTypes:=#[t,t] })
 (e:TypeId) (z:Value) (sz by_:Nat) (hinfo:(P.info? e).map (fun i=>(i.zero,i.size,i.bytes))=some (some z,sz,by_)) (ht:P.underlying t=some (.slice e)) (hzs:z.cells.size=sz) (hs0:0<sz)
 {B n c m c2:Nat} {A X:Oz} {xs news:List Value} (hs:a.eval s=.slice A n c) (hx:a.eval x=.slice X m c2)
 (hown:Own w B e sz A n c xs) (hr:Rds w sz X m news) (h1:∀ u∈news,u.oneCell'=true) (hn:(n+m)*by_≤140737488355328) (hnm:n+m≤9223372036854775807) (hB:B≤w.heap.size)
 (h:∀ A' c' w',Own w' B e sz A' (n+m) c' (xs ++news)→w.grownBy w' (Qaa A)→(Qaa A'=Qaa A∨Qaa A'=some w.heap.size)→K (a.put o.dst (.slice A' (n+m) c')) w'):o.wp P a w K Q:=by obtain ⟨A',c',w',hrun,h2,h3,h4⟩:=run_app (P:=P) w t o.type e z sz by_ hinfo ht hzs hs0 (c2:=c2) hown hr h1 hn hnm hB;unfold Oper.wp execOp;simp only [ho,resolve,invoke,builtin,Sem.run_bind,Sem.run_pure,Result.andThen_ok,List.map_toArray,List.map_cons,List.map_nil,hs,hx,hrun];exact h A' c' w' h2 h3 h4
theorem Qam {w:World}{ops:Array Oper}{rest:List Oper}{o:Oper}{a:Act}{Q:Exit→Act→World→Prop}(hgd:o.guard=none)(s x:Operand)(t:TypeId)
 (ho:o.op=.call { callee:=.builtin .append,args:=#[s,x],argTypes:=#[t,t] })
 (e:TypeId) (z:Value) (sz by_:Nat) (hinfo:(P.info? e).map (fun i=>(i.zero,i.size,i.bytes))=some (some z,sz,by_)) (ht:P.underlying t=some (.slice e)) (hzs:z.cells.size=sz) (hs0:0<sz)
 {B n c m c2:Nat} {A X:Oz} {xs news:List Value} (hs:a.eval s=.slice A n c) (hx:a.eval x=.slice X m c2)
 (hown:Own w B e sz A n c xs) (hr:Rds w sz X m news) (h1:∀ u∈news,u.oneCell'=true) (hn:(n+m)*by_≤140737488355328) (hnm:n+m≤9223372036854775807) (hB:B≤w.heap.size)
 (h:∀ A' c' w',Own w' B e sz A' (n+m) c' (xs ++news)→w.grownBy w' (Qaa A)→(Qaa A'=Qaa A∨Qaa A'=some w.heap.size)→wpList P ops Q rest (a.put o.dst (.slice A' (n+m) c')) w'):wpList P ops Q (o::rest) a w :=
 wpList_plain hgd fun _ hK=>Rim s x t ho e z sz by_ hinfo ht hzs hs0 hs hx hown hr h1 hn hnm hB fun A' c' w' h2 h3 h4=>hK _ _ (h A' c' w' h2 h3 h4)
theorem step_app {w:World}{ops:Array Oper}{o:Oper}{a:Act}{K:Act→World→Prop}{Q:Exit→Act→World→Prop}{E:Prop}(hgd:o.guard=none)(s x:Operand)(t:TypeId)
 (ho:o.op=.call { callee:=.builtin .append,args:=#[s,x],argTypes:=#[t,t] })
 (e:TypeId) (z:Value) (sz by_:Nat) (hinfo:(P.info? e).map (fun i=>(i.zero,i.size,i.bytes))=some (some z,sz,by_)) (ht:P.underlying t=some (.slice e)) (hzs:z.cells.size=sz) (hs0:0<sz)
 {B n c m c2:Nat} {A X:Oz} {xs news:List Value} (hs:a.eval s=.slice A n c) (hx:a.eval x=.slice X m c2)
 (hown:Own w B e sz A n c xs) (hr:Rds w sz X m news) (h1:∀ u∈news,u.oneCell'=true) (hn:(n+m)*by_≤140737488355328) (hnm:n+m≤9223372036854775807) (hB:B≤w.heap.size)
 (h:∀ A' c' w',Own w' B e sz A' (n+m) c' (xs ++news)→w.grownBy w' (Qaa A)→(Qaa A'=Qaa A∨Qaa A'=some w.heap.size)→K (a.put o.dst (.slice A' (n+m) c')) w') :
 if Region.wanted o (yielded ops a.tmps)=true then Oper.wp P o a w K Q else E:=by
 have hw:Region.wanted o (yielded ops a.tmps)=true:=by simp [Region.wanted,hgd]
 rw [if_pos hw];exact Rim s x t ho e z sz by_ hinfo ht hzs hs0 hs hx hown hr h1 hn hnm hB h
end
def Dj (A A':Oz):Prop:=Qaa A=none∨Qaa A'=none∨Qaa A≠Qaa A'
theorem Dj.symm {A A':Oz}(h:Dj A A'):Dj A' A:=by
 rcases h with h|h|h
 {exact .inr (.inl h)};{exact .inl h};{exact .inr (.inr (Ne.symm h))}
theorem Dj.far {A A':Oz}(h:Dj A A'):Qaa A'=none∨Qaa A'≠Qaa A:=by
 rcases h with h|h|h
 · cases hA:Qaa A' with
   | none=>exact .inl rfl
   | some g=>right;rw [h];exact fun e=>by cases e
 {exact .inl h};{exact .inr (Ne.symm h)}
theorem Dj.next {w:World}{B s n c:Nat}{e:TypeId}{A A' A2:Oz}{xs:List Value}(h:Dj A A')(ho:Own w B e s A' n c xs)(hat:Qaa A2=Qaa A∨Qaa A2=some w.heap.size):Dj A2 A':=by
 rcases hat with hat|hat
 {unfold Dj;rw [hat];exact h}
 · cases hA:Qaa A' with
   | none=>exact .inr (.inl hA)
   | some g =>have:=(Own.lt ho g hA).2;exact .inr (.inr (by rw [hat,hA];intro e;injection e;omega))
theorem Zo {B:Nat}{a w w':World}{e:TypeId}{s n c:Nat}{A:Oz}{xs:List Value}(h:Below B a w) (hg:w.grownBy w' (Qaa A)) (hown:Own w B e s A n c xs) (hB:B≤w.heap.size):Below B a w' :=
 h.grown hg hB fun k hk=>(hown.lt k hk).1
