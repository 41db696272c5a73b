/- Qbl of the proof: WsA, PlM, PlT. -/
import Derived.Test.YtkaaakbejnlbgaaGreatDoorE26
set_option maxHeartbeats 4000000
set_option maxRecDepth 100000
namespace Go.Proofs.YtkaaakbejnlbgaaGreatDoor
open Go.RowKit Go.Proofs.Tryz
attribute [local go_sem ↓] Go.wp_at_zero Go.wp_at_succ
theorem Qxd (g:Nat)(N:Qak)(a:Int)(w:World)(h:Qfg w g N) (ha:¬(0≤a∧a<(N.ar.length:Int))):Calls prog 128 #[.pointer (some ⟨g,0,none⟩),.int .i64 a] w fun e w'=>e=.returned (.int .i64 1152921504606846976)∧w=w':=by
 have HA:=Zh (gArc_no g N a w h ha);clear h ha;go_enter func128,ntmps128
 go_wp2_with fail
 with_reducible refine HA.o.mono ?_
 rintro e w' ⟨rfl,rfl⟩;go_wp2;exact Kax
theorem Rev (n k:Nat)(x y:Int)(hk:k<n):(List.replicate k x ++List.replicate (n-k) y).set k x=List.replicate (k+1) x ++List.replicate (n-(k+1)) y:=by rw [List.set_append_right _ _ Sm,List.length_replicate,Yy,show n-k=(n-(k+1))+1 by omega,List.replicate_succ,Yj,List.replicate_succ',List.append_assoc];rfl
theorem Rin (w:World)(g na:Nat)(N:Qak)(hg:Qfg w g N)(hna:na=N.ar.length)(hn:na≤16384) :
 Calls prog 168 #[.pointer (some ⟨g,0,none⟩)] w fun e w'=>∃ b,e=.returned (.slice (some ⟨b,0,none⟩) na na)∧Blk w' b 2 (Qbr (List.replicate na 1152921504606846976))∧w.heap.size≤b∧Bw w w':=by
 have HGA:=Zh (show Calls prog 39 #[.pointer (some ⟨g,0,none⟩)] w fun e w'=>e=.returned (.int .i64 na)∧w=w' from by rw [hna];exact Qdj g N w hg);have hmk:=Qde na Oo;clear hg hna;go_enter func168,ntmps168
 go_wp2_with fail
 with_reducible refine HGA.o.mono ?_
 rintro e w' ⟨rfl,rfl⟩;go_wp2_with fail
 (refine Qai ?_;intro w1 hw1);have hb1:Bw w w1:=by rw [hw1];exact Qag
 have hB1:Blk w1 w.heap.size 2 (Qbr (List.replicate 0 1152921504606846976 ++List.replicate (na-0) 0)):=by{rw [hw1,Qbx];exact Blk.new _ _ _};clear hw1 hmk;go_loopw [10] (fun q W=>∃ i:Nat,i≤na∧q=.int .i64 i∧Blk W w.heap.size 2 (Qbr (List.replicate i 1152921504606846976 ++List.replicate (na-i) 0))∧Bw w W) (fun q _=>na-(intOf q).toNat)
 case atStart=>exact ⟨0,Nat.zero_le _,rfl,hB1,hb1⟩
 case round =>
  clear hB1 hb1;obtain ⟨i,hi,rfl,hB,hb⟩:=hrel;have HB:=Zh hB;have HBB:=Zh hb;clear hB hb;by_cases hlt:i<na
  {obtain ⟨x,hx⟩:∃ x,(List.replicate i 1152921504606846976 ++List.replicate (na-i) (0:Int))[i]?=some x:=⟨_,Zg (by simp;omega)⟩;(have c0:=HB.o.cellI hx;have f0:=HB.o.frozen i;have HN:=Zh (Rev na i 1152921504606846976 0 hlt);have i1:0≤(i:Int):=Oo);(have i2:(i:Int)<na:=Oo);clear hx;(go_wp2_with fail);go_roundw;(case rel=>exact ⟨i+1,Oo,by go_num,by rw [←HN.o];exact HB.o.setI rfl,HBB.o.setCell Sm _⟩);case measure=>simp [intOf];omega};{(obtain rfl:i=na:=Oo);(have i2:¬(i:Int)<i:=Oo);(go_wp2_with fail);go_ret;exact ⟨_,rfl,by simpa using HB.o,Zn _,HBB.o⟩}
structure SdW (W0 W:World) (K:Nat→Prop) (cb ab gh na:Nat) (dnf hp:Nat→Option Int):Prop where
 af:Aft K W0 W
 cs:Blk W cb 2 (Qbr (Qju na dnf))
 ah:∃ al:Iz,Blk W ab 3 (Qbr al)∧al.length=na
 hh:Qcx W (fun b=>K b∨b=cb∨b=ab) gh na hp
 kl:∀ b,K b→b<W0.heap.size
 kb:¬K cb∧¬K ab∧cb≠ab
section
variable {W0 W W' w1:World} {K K2:Nat→Prop} {cb ab gh na p:Nat} {dnf hp d2 h2:Nat→Option Int}
theorem SdW.kept (h:SdW W0 W K cb ab gh na dnf hp):Qaz K W0 W:=h.af.kept
theorem SdW.size (h:SdW W0 W K cb ab gh na dnf hp):W0.heap.size≤W.heap.size:=h.af.size
theorem SdW.below (h:SdW W0 W K cb ab gh na dnf hp)(hb:Bw W W'):SdW W0 W' K cb ab gh na dnf hp:=by obtain ⟨al,h1,h2⟩:=h.ah;exact ⟨h.af.trans (Aft.below hb fun b hb'=>Yu (h.kl b hb') h.size),h.cs.below hb h.cs.lt,⟨al,h1.below hb h1.lt,h2⟩,h.hh.more hb (fun b hb'=>⟨Yu (h.hh.lt b hb') hb.size,.inl hb'⟩),h.kl,h.kb⟩
theorem SdW.cost (h:SdW W0 W K cb ab gh na dnf hp)(c:Int)(hp1:p<na):SdW W0 (W.setCell ⟨cb,p,none⟩ (.int .i64 c)) K cb ab gh na (fun q=>if q=p then some c else dnf q) hp:=by obtain ⟨al,h1,h2⟩:=h.ah;exact ⟨h.af.set h.kb.1 _,by rw [←Rbq dnf c hp1];exact h.cs.setI rfl,⟨al,h1.far_ (fun e=>h.kb.2.2 e.symm) _,h2⟩,h.hh.set (.inr (.inl rfl)) _,h.kl,h.kb⟩
theorem SdW.ahd (h:SdW W0 W K cb ab gh na dnf hp)(x:Int):SdW W0 (W.setCell ⟨ab,p,none⟩ (.int .i64 x)) K cb ab gh na dnf hp:=by obtain ⟨al,h1,h2⟩:=h.ah;exact ⟨h.af.set h.kb.2.1 _,h.cs.far_ h.kb.2.2 _,⟨_,h1.setI rfl,by rw [Yq];exact h2⟩,h.hh.set (.inr (.inr rfl)) _,h.kl,h.kb⟩
theorem SdW.put (h:SdW W0 W K cb ab gh na dnf hp) (hh:Qcx W' (fun b=>K b∨b=cb∨b=ab) gh na h2) (ha:Aft (fun b=>K b∨b=cb∨b=ab) W W'):SdW W0 W' K cb ab gh na dnf h2:=by obtain ⟨al,h1,h2⟩:=h.ah;exact ⟨h.af.trans (ha.mono (fun _ hb=>.inl hb)),(ha.kept cb (.inr (.inl rfl)) h.cs.lt).trans h.cs,⟨al,(ha.kept ab (.inr (.inr rfl)) h1.lt).trans h1,h2⟩,hh,h.kl,h.kb⟩
theorem SdW.on (h:SdW W0 W K cb ab gh na dnf hp)(hb:Bw W w1){e:TypeId}{A:Oz}{n c:Nat}{xs:List Value}(ho:Own w1 W.heap.size e 1 A n c xs):SdW w1 w1 (fun b=>K b∨Qaa A=some b) cb ab gh na dnf hp:=by
 have h1:=h.below hb;obtain ⟨al,a1,a2⟩:=h.ah;have hne:∀ k,k<W.heap.size→Qaa A≠some k:=fun k hk e=>by have:=(ho.lt k e).1;omega
 have hs:=hb.size;refine ⟨Aft.refl _ _,h1.cs,h1.ah,h.hh.more hb (fun b hb'=>?_),fun b hb'=>?_,⟨fun e=>e.elim h.kb.1 (hne cb h.cs.lt),fun e=>e.elim h.kb.2.1 (hne ab a1.lt),h.kb.2.2⟩⟩;{(rcases hb' with (h2|h2)|h2);{exact ⟨by have:=h.kl b h2;have:=h.size;omega,.inl (.inl h2)⟩};{exact ⟨(ho.lt b h2).2,.inr (ho.lt b h2).1⟩};{(rcases h2 with rfl|rfl);{exact ⟨h1.cs.lt,.inl (.inr (.inl rfl))⟩};{exact ⟨by have:=a1.lt;omega,.inl (.inr (.inr rfl))⟩}}};{(rcases hb' with h2|h2);{have:=h.kl b h2;have:=h.size;omega};{exact (ho.lt b h2).2}}
theorem SdW.back (h:SdW W0 w1 K cb ab gh na dnf hp)(h':SdW w1 W K2 cb ab gh na d2 h2)(hs:∀ b,K b→K2 b):SdW W0 W K cb ab gh na d2 h2 :=
 ⟨h.af.trans (h'.af.mono hs),h'.cs,h'.ah,h'.hh.less (fun b hb=>hb.elim (fun e=>.inl (hs b e)) .inr),h.kl,h.kb⟩
end
def Rga (na:Nat)(dnf:Nat→Option Int):Nat:=(List.range na).countP fun q=>(dnf q).isNone
theorem Rce {na p:Nat}{dnf:Nat→Option Int}(c:Int)(hp:p<na)(h:dnf p=none):Rga na (fun q=>if q=p then some c else dnf q)<Rga na dnf:=by
 unfold Rga
 induction na with
 | zero=>omega
 | succ n ih =>rw [List.range_succ,List.countP_append,List.countP_append];by_cases e:p=n;{subst e;have h1:(List.range p).countP (fun q=>(if q=p then some c else dnf q).isNone)=(List.range p).countP (fun q=>(dnf q).isNone):=by{(refine List.countP_congr fun q hq=>?_);(have:q≠p:=by have:=List.mem_range.1 hq;omega);simp [this]};rw [h1];simp [h]};{have h1:=ih Oo;(have h2:n≠p:=fun x=>e x.symm);(have h3:[n].countP (fun q=>(if q=p then some c else dnf q).isNone)=[n].countP (fun q=>(dnf q).isNone):=by simp [h2]);rw [h3];omega}
def SprP (w:World)(N:Qak)(s:Int)(e:Ending)(w':World):Prop :=
 (∃ (cb ab n:Nat) (row:Iz),n=N.ar.length∧e=.returned (.tuple #[.slice (some ⟨cb,0,none⟩) n n,.slice (some ⟨ab,0,none⟩) n n])∧Blk w' cb 2 (Qbr row)∧w.heap.size≤cb∧FrmP N s row)∧Bw w w'
theorem Qyy (w:World)(g:Nat)(N:Qak)(s:Int)(hg:Qfg w g N)(hok:Qar N):Calls prog 112 #[.pointer (some ⟨g,0,none⟩),.int .i64 s] w (SprP w N s):=by
 have hla:=hok.la;obtain ⟨na,hna⟩:=Zx N.ar.length
 obtain ⟨wv,HWT,hwc⟩:∃ wv,Hd (∀ V,Bw w V→Calls prog 128 #[.pointer (some ⟨g,0,none⟩),.int .i64 s] V fun e w'=>e=.returned (.int .i64 wv)∧V=w')∧((wv=1152921504606846976∧(¬(0≤s∧s<N.ar.length)∨wV N s.toNat=1152921504606846976))∨(wv≠1152921504606846976∧∃ (sn:Nat),s=sn∧sn<N.ar.length∧wV N sn=wv)):=by
  by_cases hs:0≤s∧s<N.ar.length
  {obtain ⟨sn,rfl⟩:∃ sn:Nat,s=sn:=⟨s.toNat,Oo⟩;obtain ⟨x,hx⟩:∃ x,N.ar[sn]?=some x:=⟨_,Zg Oo⟩;refine ⟨x.2.2,Zh fun V hV=>Qft g sn N x V (hg.below hV) hx,?_⟩;have hwx:=(Qbw hx).2.2;rw [Yl,hwx];by_cases e:x.2.2=1152921504606846976;{exact .inl ⟨e,.inr e⟩};{exact .inr ⟨e,sn,rfl,Oo,hwx⟩}};{exact ⟨_,Zh fun V hV=>Qxd g N s V (hg.below hV) hs,.inl ⟨rfl,.inl hs⟩⟩}
 have HGA:=Zh (show ∀ V,Bw w V→Calls prog 39 #[.pointer (some ⟨g,0,none⟩)] V fun e w'=>e=.returned (.int .i64 na)∧V=w' from fun V h=>by rw [hna];exact Qdj g N V (hg.below h));have HNO:=Zh (Rin w g na N hg hna Oo);have HNA:=Zh hna;have HG:=Zh hg;have hmk:=Qdp na Oo;have hna4:na≤16384:=Oo
 clear hg hna hla;unfold SprP;go_enter func112,ntmps112
 go_wp2_with fail
 with_reducible refine HNO.o.mono ?_
 rintro e w1 ⟨cb,rfl,hc,hcb,hb1⟩;have HC:=Zh hc;have HCB:=Zh hcb;clear hc hcb HNO;go_wp2_with fail
 with_reducible refine (HGA.o w1 hb1).mono ?_
 rintro e w' ⟨rfl,rfl⟩;go_wp2_with fail
 (refine Qab ?_;intro w2 hw2);have hb12:Below w1.heap.size w1 w2:=by rw [hw2];exact Qag
 have hB2:Blk w2 w1.heap.size 3 (Qbr (List.replicate na 0)):=by{rw [hw2,Qbx];exact Blk.new _ _ _};have hb2:=Zb hb1 hb12;have HC2:=Zh (HC.o.below hb12 HC.o.lt);have HCL:=Zh HC.o.lt;have HB2:=Zh hB2;clear hw2 hmk hb12 hB2 HC;with_reducible refine (HWT.out w2 hb2).mono ?_
 rintro e w' ⟨rfl,rfl⟩;rcases hwc with ⟨rfl,hwn⟩|⟨hwn,sn,rfl,hsn,hwe⟩
 {have HF:=Zh (Qzk hwn);have HBB:=Zh hb2;clear hwn hb1 hb2;(go_wp2_with fail);refine bodyPost_ret (v:=.tuple #[.slice (some ⟨cb,0,none⟩) na na,.slice (some ⟨w1.heap.size,0,none⟩) na na]) (by simp [results,results112,go_sem]) rfl ?_;exact ⟨⟨cb,_,na,_,HNA.o,rfl,by rw [HNA.o] at HC2;exact HC2.o,HCB.o,HF.o⟩,HBB.o⟩};have e1:(wv == 1152921504606846976)=false:=by simp [hwn]
 have HSN:=Zh (show sn<na by rw [HNA.o];exact hsn);have HWE:=Zh (show wV N sn≠1152921504606846976 by rw [hwe];exact hwn);have hsn':(sn:Int)<na:=by have:=HSN.o;omega
 have hs0:0≤(sn:Int):=Oo
 have c0:=HB2.o.cellI (i:=sn) (x:=0) (by rw [List.getElem?_replicate,if_pos HSN.o]);have f0:=HB2.o.frozen sn;clear hwn hsn hwe;go_wp2_with fail
 (refine Qab ?_;intro w3 hw3);have hb3:Bw w w3:=by rw [hw3];exact hb2.setCell (by simp only;exact hb1.size) _
 have HB3:=Zh (show ∃ al:Iz,Blk w3 w1.heap.size 3 (Qbr al)∧al.length=na from by rw [hw3];exact ⟨_,HB2.o.setI rfl,Sm⟩);have HC3:=Zh (show Blk w3 cb 2 (Qbr (List.replicate na 1152921504606846976)) from by rw [hw3];exact HC2.o.far_ (by have:=HCL.o;omega) _);have HZ:=Zh (show w.heap.size≤w1.heap.size∧cb<w1.heap.size from ⟨hb1.size,HCL.o⟩);clear hw3 hb1 hb2 c0 f0 HB2 HC2 HCL e1;with_reducible refine (HGA.o w3 hb3).mono ?_
 rintro e w' ⟨rfl,rfl⟩;go_wp2_with fail
 with_reducible refine (Qrw w3 na hna4).mono ?_
 rintro e w4 ⟨gh,rfl,hh,hb34⟩;obtain ⟨ab,hab⟩:=Zx w1.heap.size;rw [←hab] at HB3 HZ;obtain ⟨K,hKd⟩:∃ K:Nat→Prop,K=fun b=>b<w3.heap.size∧b≠cb∧b≠ab:=⟨_,rfl⟩
 have HW4:=Zh (show SdW w4 w4 K cb ab gh na (fun _=>none) (fun _=>none) from by
  have h1:cb<w3.heap.size:=HC3.o.lt
  obtain ⟨al,h2,h3⟩:=HB3.o;have h4:=h2.lt;have h5:=HZ.o;refine ⟨Aft.refl _ _,?_,⟨al,h2.below hb34 h4,h3⟩,hh.less (fun b hb=>?_),fun b hb=>?_,⟨fun h=>?_,fun h=>?_,Oo⟩⟩
  · have:=HC3.o.below hb34 h1
    rwa [show Qju na (fun _=>none)=List.replicate na 1152921504606846976 from List.ext_getElem? (fun i=>by
     by_cases hi:i<na
     · rw [Qeq _ hi,List.getElem?_replicate,if_pos hi];rfl
     · rw [Yd (by rw [Qfr];omega),Yd (by simp;omega)])]
  · subst hKd
    rcases hb with hb|rfl|rfl
    · exact hb.1
    · exact h1
    · exact h4
  · subst hKd
    have:=hb34.size;have:=hb.1;omega
  · subst hKd;exact h.2.1 rfl
  · subst hKd;exact h.2.2 rfl)
 have HB4:=Zh (Zb hb3 hb34)
 have HK:=Zh (show ∀ b,b<w.heap.size→K b from fun b hb=>by
  have h1:=hb3.size;have h2:=HZ.o;have h3:=HCB.o;subst hKd;exact ⟨Oo,Oo,Oo⟩)
 have HGR:=Zh (show Qfg (msk w4 K) g N from HG.o.le (Le.mskBelow HB4.o HK.o));rw [←hab];clear hab hKd hh hb34 hb3 HC3 HB3 HG;go_wp2_with fail
 with_reducible refine (Qgk w4 _ HW4.o.hh sn HSN.o 0 Oo Oo).mono ?_
 rintro e w5 ⟨rfl,hh5,ha5⟩;have HS:=Zh (sdS_W hok sn);have HOK:=Zh hok;have HW5:=Zh (HW4.o.put hh5 ha5);have HI5:=Zh (SdI.init HS.o);clear hh5 ha5 HW4;go_wp2_with fail
 go_loopw [4,5] (fun z4 z5 W=>z4=.slice (some ⟨cb,0,none⟩) na na∧z5=.slice (some ⟨ab,0,none⟩) na na∧∃ k:Nat,∃ dnf hp,SdW w4 W K cb ab gh na dnf hp∧SdI (StW N) 70373039144960 4294967296 sn dnf hp∧Rga na dnf=k) (fun _ _ W=>lst fun k=>∃ dnf hp,SdW w4 W K cb ab gh na dnf hp∧SdI (StW N) 70373039144960 4294967296 sn dnf hp∧Rga na dnf=k)
 case atStart=>exact ⟨rfl,rfl,_,_,_,HW5.o,HI5.o,rfl⟩
 case round =>
  clear HW5 HI5;obtain ⟨rfl,rfl,hrel⟩:=hrel;obtain ⟨k0,hk0,dnf,hp,hw,hi,hlv⟩:=Rgk hrel;have HK0:=Zh hk0;have HLV:=Zh hlv;have HWr:=Zh hw;have HIr:=Zh hi;have HPO:=Zh (Qrx wr hp hw.hh);clear hw hi hk0 hlv hrel;go_wp2_with fail
  with_reducible refine HPO.o.mono ?_
  rintro e w7 ⟨h7,ha7⟩;have HA7:=Zh ha7;clear ha7 HPO;rcases h7 with ⟨hno,rfl,hh⟩|⟨k,z,hkn,hkz,hmin,rfl,hh⟩
  {have HW7:=Zh (HWr.o.put hh HA7.o);have HF:=Zh (SdI.frm (by rw [←HNA.o];exact HSN.o) HWE.o HS.o HIr.o hno);rw [←HNA.o] at HF;clear hno hh;(go_wp2_with fail);refine bodyPost_ret (v:=.tuple #[.slice (some ⟨cb,0,none⟩) na na,.slice (some ⟨ab,0,none⟩) na na]) (by simp [results,results112,go_sem]) rfl ?_;exact ⟨⟨cb,ab,na,_,HNA.o,rfl,HW7.o.cs,HCB.o,HF.o⟩,HB4.o.trans (HW7.o.af.bel _ HK.o)⟩};have HW7:=Zh (HWr.o.put hh HA7.o);have HTK:=Zh (fun os=>HIr.o.take (os:=os) HS.o hkz hmin);have HFR:=Zh (HIr.o.free hkz);have hzb:0≤z∧z≤70373039144960:=(HTK.o []).c0;obtain ⟨xk,hxk⟩:∃ xk,N.ar[k]?=some xk:=⟨_,Zg (by rw [←HNA.o];exact hkn)⟩;have HXK:=Zh hxk;have ck:=HW7.o.cs.cellI (Qeq dnf hkn);have fk:=HW7.o.cs.frozen k;have hkn':(k:Int)<na:=Oo
  have hk0:0≤(k:Int):=Oo
  have HW8:=Zh (HW7.o.cost z hkn);have HKN:=Zh hkn;clear hh hkz hmin hxk hkn;go_wp2_with fail
  (refine Qab ?_;intro w8 hw8);rw [←hw8] at HW8;clear hw8 ck fk;have HG8:=Zh (HGR.o.le (Le.kept HW8.o.kept));with_reducible refine (Qjx g k N xk w8 HG8.o HXK.o).mono ?_
  rintro e w' ⟨rfl,rfl⟩;have hxo:=HOK.o.arcs xk (Zm HXK.o);obtain ⟨v,hv⟩:∃ v:Nat,xk.2.1=(v:Int):=⟨xk.2.1.toNat,by have:=hxo.g0;omega⟩;have HV:=Zh hv;rw [hv];have HOU:=Zh (Qrr g v N w8 HG8.o (by have:=hxo.g1;omega));clear hxo hv;go_wp2_with fail
  with_reducible refine HOU.o.mono ?_
  rintro e w9 ⟨Ao,no,co,rfl,ho,hb9⟩;obtain ⟨bs,hbs,hbm⟩:=Rgy (·.1) N.ar xk.2.1;rw [←HV.o,←hbs] at ho;have HO:=Zh ho;have HBS:=Zh hbs;have HBM:=Zh hbm;have hno:bs.length=no:=by have:=HO.o.1;simpa [Qae,nis] using this
  have hnl:no≤16384:=by{(have h1:bs.length=(idx (·.1) N.ar xk.2.1).length:=by rw [←HBS.o,Qeg]);have h2:=Qhi (·.1) N.ar N.ar.length xk.2.1;rw [List.take_length] at h2;have:=HOK.o.la;omega};have HNB:=Zh hno;have HB9:=Zh hb9;have HI9:=Zh (HW8.o.on hb9 ho);have HGL:=Zh (show Qfg (msk w9 (fun b=>K b∨Qaa Ao=some b)) g N from HGR.o.le ((Qaz.msk (HW8.o.below hb9).kept).trans (Qbj (fun _ hb=>.inl hb))))
  have HEL:=Zh (show ∀ W,Qaz (fun b=>K b∨Qaa Ao=some b) w9 W→∀ (i:Nat) (b:Nat),bs[i]?=some b→∃ bo,Ao=some ⟨bo,0,none⟩∧W.cell? ⟨bo,i,none⟩=some (.int .i64 (b:Int)) from fun W hK i b hb=>by
   have hi:=(Zs hb).1;obtain ⟨bo,cur,e,_,hblk,_,_,hcell⟩:=HO.o.block (by have:=HNB.o;omega);refine ⟨bo,e,?_⟩;have h1:W.heap[bo]?=w9.heap[bo]?:=hK bo (.inr (by rw [e];rfl)) hblk.lt
   have h2:w9.cell? ⟨bo,i,none⟩=some (.int .i64 (b:Int)):=by
    rw [hblk.cell];exact hcell i _ (Qhx (Qez hb))
   rw [World.cell?_of_block (w:=w9) h1];exact h2)
  have HJ9:=Zh (HTK.o (nis bs));clear ho hbs hbm hb9 hno HG8 HOU HTK;go_wp2_with fail
  go_loopw [54] (fun q W=>∃ (i:Nat) (h3:Nat→Option Int),i≤no∧q=.int .i64 i∧SdW w9 W (fun b=>K b∨Qaa Ao=some b) cb ab gh na (fun q=>if q=k then some z else dnf q) h3∧SdJ (StW N) 70373039144960 4294967296 sn k z (nis bs) i (fun q=>if q=k then some z else dnf q) h3) (fun q _=>no-(intOf q).toNat)
  case atStart=>exact ⟨0,_,Nat.zero_le _,rfl,HI9.o,HJ9.o⟩
  case round =>
   obtain ⟨i,h3,hin,rfl,hw,hj⟩:=hrel;have HWi:=Zh hw;have HJi:=Zh hj;clear hw hj;(by_cases hlt:i<no);rotate_left
   · (obtain rfl:i=no:=Oo);have i2:¬(i:Int)<i:=Oo
     have HIX:=Zh (HJi.o.all (by rw [Qeg,HNB.o];exact Zn _) (fun q d hq=>by
      obtain ⟨y,hy,h1,_⟩:=hq;obtain ⟨j,hj⟩:=Yr (Qmw HXK.o HBS.o h1);exact ⟨j,Qez hj⟩))
     have HWX:=Zh ((HW8.o.below HB9.o).back HWi.o (fun _ hb=>.inl hb));(go_wp2_with fail);go_roundw;(case rel=>exact ⟨rfl,rfl,_,_,_,HWX.o,HIX.o,rfl⟩);case measure =>have h1:=Rce z HKN.o HFR.o;rw [HK0.o,←HLV.o];exact Nat.lt_of_le_of_lt (lst_le ⟨_,_,HWX.o,HIX.o,rfl⟩) h1
   (obtain ⟨b,hb⟩:∃ b,bs[i]?=some b:=⟨_,Qbo 0 (by have:=HNB.o;omega)⟩;obtain ⟨y,hy,hyv⟩:=HBM.o b (Zm hb);obtain ⟨bo,hAo,he⟩:=HEL.o _ HWi.o.kept i b hb;have HYB:=Zh (Qez hb);have HY:=Zh hy;have hbn:b<na:=by rw [HNA.o];exact (Zs hy).1);(have HGi:=Zh (HGL.o.le (Le.kept HWi.o.kept));have HTU:=Zh (Qrt g k b N xk y wr HGi.o HXK.o hy);have i1:0≤(i:Int):=Oo);(have i2:(i:Int)<no:=Oo);have htb:=Qcs HOK.o k b;have hyb:=Qei (HOK.o.arcs y (Zm hy)).w;obtain ⟨tv,htv⟩:=Zx (Qal N k b);obtain ⟨yv,hyv'⟩:=Zx y.2.2;rw [←htv] at HTU htb;rw [←hyv'] at hyb;have HTV:=Zh htv;have HYV:=Zh hyv';subst hAo;clear hb hy hyv htv hyv';(go_wp2_with fail);(with_reducible refine HTU.o.mono ?_);rintro e w10 ⟨rfl,hb10⟩;have HWj:=Zh (HWi.o.below hb10);have HGj:=Zh (HGL.o.le (Le.kept HWj.o.kept));have HWW:=Zh (show Calls prog 128 #[.pointer (some ⟨g,0,none⟩),.int .i64 b] w10 fun e w'=>e=.returned (.int .i64 yv)∧w10=w' from by rw [HYV.o];exact Qft g b N y w10 HGj.o HY.o);clear hb10 HTU HGi he;(go_wp2_with fail);(with_reducible refine HWW.o.mono ?_);(rintro e w' ⟨rfl,rfl⟩;have cb0:=HWj.o.cs.cellI (Qeq (fun q=>if q=k then some z else dnf q) hbn);have jb0:0≤(b:Int):=Oo);(have jb1:(b:Int)<na:=Oo);clear HWW HGj;by_cases hti:tv=1152921504606846976∨yv=1152921504606846976
   · have HWX:=HWj
     have HJX:=Zh (HJi.o.skip HYB.o (fun d hd=>by
      obtain ⟨y',h1,h2,h3,_⟩:=hd;rw [HY.o] at h1
      cases h1
      rw [←HTV.o] at h2;rw [←HYV.o] at h3;exact hti.elim h2 h3))
     by_cases hte:tv=1152921504606846976;{(have e1:(tv == 1152921504606846976)=true:=by simp [hte]);clear htb hyb hti hte;exact Kbq};{(have e1:(tv == 1152921504606846976)=false:=by simp [hte]);(have e2:(yv == 1152921504606846976)=true:=by simp [hti.resolve_left hte]);clear htb hyb hti hte;exact Kbq}
   (have hte:¬tv=1152921504606846976:=fun h=>hti (.inl h));(have hye:¬yv=1152921504606846976:=fun h=>hti (.inr h));(have e1:(tv == 1152921504606846976)=false:=by simp [hte]);(have e2:(yv == 1152921504606846976)=false:=by simp [hye]);have htz:=htb.resolve_left hte;have hyz:=hyb.resolve_left hye;have HST:=Zh (show StW N k b (tv+yv) from ⟨y,HY.o,by rw [←HTV.o];exact hte,by rw [←HYV.o];exact hye,by rw [HTV.o,HYV.o]⟩);obtain ⟨cv,hcv⟩:=Zx (((fun q=>if q=k then some z else dnf q) b).getD 1152921504606846976);rw [←hcv] at cb0;clear htb hyb hti hte hye;by_cases hdb:(fun q=>if q=k then some z else dnf q) b=none;rotate_left;{have HWX:=HWj;have HJX:=Zh (HJi.o.off HS.o HYB.o HST.o hdb);have e3:(cv != 1152921504606846976)=true:=by{obtain ⟨d,hd⟩:=Option.ne_none_iff_exists'.1 hdb;have:=HJi.o.dbd b d hd;rw [hcv,hd];simp;omega};clear hcv hdb;exact Kbq};(have e3:(cv != 1152921504606846976)=false:=by rw [hcv,hdb];rfl);(have HJP:=Zh (HJi.o.put HS.o HYB.o HST.o hdb);obtain ⟨far,hfar⟩:=Zx (z+(tv+yv));rw [←hfar] at HJP;have hf0:0≤far∧far≤1152921504606846976:=Oo);have HFR2:=Zh (show z+tv+yv=far by omega);(obtain ⟨w11,hw11⟩:=Zx (w10.alloc (.cells #[.int .i64 z,.int .i64 tv,.int .i64 yv] 2));have hb11:Bw w10 w11:=by rw [hw11];exact Qag);(have hrd:RdI w11 (some ⟨w10.heap.size,0,none⟩) 3 [z,tv,yv]:=by rw [hw11];exact Blk.rdI (t:=2) (l:=[z,tv,yv]) (Blk.new w10 2 (Qbr [z,tv,yv])) rfl);have HSU:=Zh (Rbp _ 3 w11 z tv yv hrd hzb.1 htz.1 hyz.1 Oo);rw [HFR2.o] at HSU;have HWk:=Zh (HWj.o.below hb11);have HPU:=Zh (Qgk w11 h3 HWk.o.hh b hbn far hf0.1 hf0.2);obtain ⟨pb,hpb⟩:=Zx (Rdi h3 b far);rw [←hpb] at HPU;clear hcv hdb hfar hf0 hb11 hrd hpb;(go_wp2_with fail);(rw [←hw11];clear hw11;with_reducible refine HSU.o.mono ?_);rintro e w' ⟨rfl,rfl⟩;(go_wp2_with fail);(with_reducible refine HPU.o.mono ?_);rintro e w12 ⟨rfl,hh12,ha12⟩;have HWp:=Zh (HWk.o.put hh12 ha12);have HJX:=HJP;clear hh12 ha12
   cases pb with
   | false =>have HWX:=HWp;(go_wp2_with fail);go_roundw;(case rel=>exact ⟨i+1,_,Oo,by go_num,HWX.o,HJX.o⟩);case measure=>simp [intOf];omega
   | true =>obtain ⟨al,hal,hall⟩:=HWp.o.ah;obtain ⟨ov,hov⟩:∃ ov,al[b]?=some ov:=⟨_,Zg Oo⟩;have a0:=hal.cellI hov;have af:=hal.frozen b;have HWX:=Zh (HWp.o.ahd (p:=b) (k:Int));clear hal hall hov;(go_wp2_with fail);go_roundw;(case rel=>exact ⟨i+1,_,Oo,by go_num,HWX.o,HJX.o⟩);case measure=>simp [intOf];omega
theorem Qyw (w:World)(g:Nat)(N:Qak)(s:Int)(hg:Qfg w g N)(hok:Qar N):Calls prog 59 #[.pointer (some ⟨g,0,none⟩),.int .i64 s] w fun e w'=>(∃ (cb n:Nat) (row:Iz),n=N.ar.length∧e=.returned (.slice (some ⟨cb,0,none⟩) n n)∧Blk w' cb 2 (Qbr row)∧w.heap.size≤cb∧FrmP N s row)∧Bw w w':=by
 have HS:=Zh (Qyy w g N s hg hok);clear hg hok;go_enter func59,ntmps59
 go_wp2_with fail
 with_reducible refine HS.o.mono ?_
 unfold SprP;rintro e w2 ⟨⟨cb,ab,n,row,hn,rfl,hB,hcb,hF⟩,hb⟩;have HCB:=Zh hcb;have HB:=Zh hB;have HF:=Zh hF;have HN:=Zh hn;have HBB:=Zh hb;clear hB hcb hF hn hb;go_wp2_with fail
 go_ret;exact ⟨⟨cb,n,row,HN.o,rfl,HB.o,HCB.o,HF.o⟩,HBB.o⟩
structure MdW (W:World) (B tb n:Nat) (rows:Lz):Prop where
 bk:∃ cs:Array Value,Blk W tb 37 cs∧cs.size=n∧∀ (k:Nat) (row:Iz),rows[k]?=some row→∃ rb,cs[k]?=some (Value.slice (some ⟨rb,0,none⟩) n n)∧Blk W rb 2 (Qbr row)∧row.length=n∧rb<B∧rb≠tb
 lt:tb<B
section
variable {W W':World} {B B' tb n:Nat} {rows:Lz}
theorem MdW.upd (h:MdW W B tb n rows)(hb:Below B W W')(hB:B≤B'):MdW W' B' tb n rows:=by obtain ⟨⟨cs,h1,h2,h3⟩,h4⟩:=h;refine ⟨⟨cs,h1.below hb h4,h2,fun k row hk=>?_⟩,Oo⟩;obtain ⟨rb,g1,g2,g3,g4,g5⟩:=h3 k row hk;exact ⟨rb,g1,g2.below hb g4,g3,Oo,g5⟩
theorem MdW.cell (h:MdW W B tb n rows){i:Nat}(hi:i<n):(∃ v,W.cell? ⟨tb,i,none⟩=some v)∧W.frozen? ⟨tb,i,none⟩=false:=by exact Kdc
theorem MdW.set {i:Nat}(h:MdW W B tb n rows)(hi:rows.length≤i)(v:Value):MdW (W.setCell ⟨tb,i,none⟩ v) B tb n rows:=by obtain ⟨⟨cs,k1,k2,k3⟩,k4⟩:=h;refine ⟨⟨_,k1.set_ _ _,by rw [Array.size_setIfInBounds];exact k2,fun k r hk=>?_⟩,k4⟩;have hl:=(Zs hk).1;obtain ⟨b,g1,g2,g3,g4,g5⟩:=k3 k r hk;exact ⟨b,by rw [Array.getElem?_setIfInBounds_ne Oo];exact g1,g2.far_ g5 _,g3,g4,g5⟩
theorem MdW.add {rb:Nat}{row:Iz}(h:MdW W B tb n rows) (hc:W.cell? ⟨tb,rows.length,none⟩=some (.slice (some ⟨rb,0,none⟩) n n)) (hB:Blk W rb 2 (Qbr row)) (h1:row.length=n) (h2:rb<B) (h3:rb≠tb):MdW W B tb n (rows ++[row]):=by
 obtain ⟨⟨cs,k1,k2,k3⟩,k4⟩:=h;refine ⟨⟨cs,k1,k2,fun k r hk=>?_⟩,k4⟩;by_cases e:k<rows.length
 {rw [Yc e] at hk;exact k3 k r hk};{have hl:=(Zs hk).1;(rw [Yp,List.length_singleton] at hl;obtain rfl:k=rows.length:=Oo);rw [Yb (Zn _),Yy] at hk;cases hk;rw [k1.cell] at hc;exact ⟨rb,hc,hB,h1,h2,h3⟩}
theorem MdW.rdT (h:MdW W B tb n rows)(hl:rows.length=n)(hn:n≤1000000):RdT W (some ⟨tb,0,none⟩) n rows:=by exact Kci
end
def ModI (N:Qak)(pts:Iz)(i:Nat) (ls:Lz):Prop:=ls.length=i∧∀ (k:Nat) s,k<i→pts[k]?=some s→∃ row,ls[k]?=some row∧Qtc N pts s row
theorem ModI.snoc {N:Qak}{pts row:Iz}{i:Nat}{s:Int} {ls:Lz} (h:ModI N pts i ls) (hs:pts[i]?=some s) (hr:Qtc N pts s row):ModI N pts (i+1) (ls ++[row]) :=
 ⟨by simp [h.1],fun k t hk ht=>by
  by_cases e:k<i
  · obtain ⟨r,h1,h2⟩:=h.2 k t e ht
    exact ⟨r,by rw [Yc (by rw [h.1];exact e)];exact h1,h2⟩
  · obtain rfl:k=i:=by omega
    rw [hs] at ht
    cases ht
    exact ⟨row,by rw [Yb (by rw [h.1];exact Zn _),h.1,Yy];rfl,hr⟩⟩
theorem Rht {row:Iz}{n k:Nat}(hl:row.length=k)(hk:k<n)(x:Int):(row ++List.replicate (n-k) 0).set k x=(row ++[x]) ++List.replicate (n-(k+1)) 0:=by subst hl;rw [List.set_append_right _ _ (Zn _),Yy,show n-row.length=(n-(row.length+1))+1 by omega,List.replicate_succ,Yj,List.append_assoc];rfl
def MdlP (w:World)(N:Qak)(n:Nat)(pts:Iz)(e:Ending)(w':World):Prop:=(∃ tb ls,e=.returned (.slice (some ⟨tb,0,none⟩) n n)∧RdT w' (some ⟨tb,0,none⟩) n ls∧Qpl N pts ls)∧Bw w w'
theorem Qfd (w:World)(g:Nat)(N:Qak)(A:Oz)(n c:Nat)(pts:Iz)(hg:Qfg w g N)(hok:Qar N)(hp:RdI w A n pts)(hn:n≤1000) :
 Calls prog 25 #[.pointer (some ⟨g,0,none⟩),.slice A n c] w (MdlP w N n pts):=by
 have HFR:=Zh (fun V (hV:Below w.heap.size w V) s=>Qyw V g N s (hg.below hV) hok);have HP:=Zh hp;have HPL:=Zh hp.1;have hmt:=Qqt n Oo;have hm6:=Qde n Oo;obtain ⟨na,hna⟩:=Zx N.ar.length;have HNA:=Zh hna;clear hg hok hp hna;go_enter func25,ntmps25
 go_wp2_with fail
 (refine Qai ?_;intro w1 hw1);have hb1:Below w.heap.size w w1:=by rw [hw1];exact Qag
 have hT1:MdW w1 w1.heap.size w.heap.size n []:=by{rw [hw1];exact ⟨⟨_,Blk.new _ _ _,by simp [Qbg],fun k row h=>by simp at h⟩,Sm⟩};obtain ⟨tb,htb⟩:=Zx w.heap.size;rw [←htb] at hT1 ⊢;have HTB:=Zh htb;clear hw1 hmt htb;go_loopw [16] (fun q W=>∃ (i:Nat) (rows:Lz),i≤n∧q=.int .i64 i∧MdW W W.heap.size tb n rows∧ModI N pts i rows∧Below w.heap.size w W) (fun q _=>n-(intOf q).toNat)
 case atStart=>exact ⟨0,[],Nat.zero_le _,rfl,hT1,⟨rfl,fun k s hk=>by omega⟩,hb1⟩
 case round =>
  clear hT1 hb1;obtain ⟨i,rows,hi,rfl,ht,hmi,hb⟩:=hrel;have HT:=Zh ht;have HMI:=Zh hmi;have HB:=Zh hb;clear ht hmi hb;by_cases hlt:i<n
  rotate_left;{(obtain rfl:i=n:=Oo);(have i1:¬(i:Int)<i:=Oo);have HR:=Zh (HT.o.rdT HMI.o.1 Oo);have HMT:=Zh (show Qpl N pts rows from ⟨by rw [HMI.o.1,HPL.o],fun k s hk=>HMI.o.2 k s (by have:=(Zs hk).1;have:=HPL.o;omega) hk⟩);(go_wp2_with fail);go_ret;unfold MdlP;exact ⟨⟨tb,rows,rfl,HR.o,HMT.o⟩,HB.o⟩};obtain ⟨b0,o0,s,rfl,hs,hc⟩:=HP.o.at_ hlt;have j1:=Zc HB.o (Zn _) hc;have HS:=Zh hs;have i1:(i:Int)<n:=Oo
  have i2:0≤(i:Int):=Oo
  clear hs hc;go_wp2_with fail
  with_reducible refine (HFR.o wr HB.o s).mono ?_
  rintro e w2 ⟨⟨fb,nf,far,hnf,rfl,hf,hfb,hfp⟩,hb2⟩;have HFB:=Zh hfb;have HF:=Zh hf;have HFP:=Zh hfp;have HNF:=Zh hnf;have HT2:=Zh (HT.o.upd hb2 hb2.size);have HB2:=Zh (Zb HB.o hb2);obtain ⟨⟨ov,t0⟩,t1⟩:=HT2.o.cell hlt;have tl:=HT2.o.lt;clear hf hfb hfp hnf hb2 j1;go_wp2_with fail
  (refine Qai ?_;intro w3 hw3);obtain ⟨rb,hrb⟩:=Zx w2.heap.size;have hM:=MdW.set (i:=i) HT2.o (by rw [HMI.o.1];exact Zn _) (.slice (some ⟨w2.heap.size,0,none⟩) n n)
  have HT3:=Zh (show MdW w3 rb tb n rows from by
   rw [hw3,hrb];exact hM.upd ((Zr _ _).alloc (by simp [World.setCell]) _) (Zn _))
  have HX3:=Zh (show w3.cell? ⟨tb,i,none⟩=some (.slice (some ⟨rb,0,none⟩) n n) from by
   rw [hw3,hrb];refine Zc (w:=w2.setCell ⟨tb,i,none⟩ (.slice (some ⟨w2.heap.size,0,none⟩) n n)) ((Zr _ _).alloc (Zn _) _) (Zn _) ?_;exact World.cell?_setCell_same _ _ _ t0)
  have hs3:(w2.setCell ⟨tb,i,none⟩ (.slice (some ⟨w2.heap.size,0,none⟩) n n)).heap.size=w2.heap.size:=by simp [World.setCell]
  have hnew:=Blk.new (w2.setCell ⟨tb,i,none⟩ (.slice (some ⟨w2.heap.size,0,none⟩) n n)) 2 (Qbr (List.replicate n 0));rw [hs3,←Qbx,←hw3,←hrb,Qbx] at hnew;have HR3:=Zh hnew
  have HF3:=Zh (show Blk w3 fb 2 (Qbr far) from by
   rw [hw3];exact Blk.alloc (HF.o.far_ (by have:=HFB.o;have:=HT.o.lt;omega) _) _)
  have HB3:=Zh (show Below w.heap.size w w3 from by
   rw [hw3];exact (HB2.o.setCell (by simp only;rw [HTB.o];exact Zn _) _).alloc (by simp [World.setCell];exact HB2.o.size) _)
  have HZ:=Zh (show fb<rb∧tb<rb∧w.heap.size≤rb∧w.heap.size≤w3.heap.size∧rb<w3.heap.size from ⟨by have:=HF.o.lt;omega,by have:=HT2.o.lt;omega,by have:=HB2.o.size;omega,HB3.o.size,HR3.o.lt⟩);rw [←hrb];clear hw3 hrb hM hs3 hnew t0 t1 tl HT HT2 HB HB2 HF;go_loopw [32] (fun q W=>∃ (k:Nat) (row:Iz),k≤n∧q=.int .i64 k∧row.length=k∧Blk W rb 2 (Qbr (row ++List.replicate (n-k) 0))∧Qtc N (pts.take k) s row∧Below rb w3 W) (fun q _=>n-(intOf q).toNat)
  case atStart=>exact ⟨0,[],Nat.zero_le _,rfl,rfl,by simpa using HR3.o,⟨rfl,fun i t h=>by simp at h⟩,Zr _ _⟩
  case round =>
   clear HR3;obtain ⟨k,row,hk,rfl,hrl,hrb,hmr,hbb⟩:=hrel;have HRL:=Zh hrl;have HRB:=Zh hrb;have HMR:=Zh hmr;have HBB:=Zh hbb;have htb:wr.cell? ⟨tb,i,none⟩=some (.slice (some ⟨rb,0,none⟩) n n):=by{rw [World.cell?_of_block (w:=w3) (HBB.o.block tb HZ.o.2.1)];exact HX3.o};have HBw:=Zh (HB3.o.trans (HBB.o.mono HZ.o.2.2.1));clear hrl hrb hmr hbb;(by_cases hlt2:k<n);rotate_left
   · (obtain rfl:k=n:=Oo);(have j2:¬(k:Int)<k:=Oo);(have hbk:Blk wr rb 2 (Qbr row):=by simpa using HRB.o);have hrz:=hbk.lt
     have HTX:=Zh (show MdW wr wr.heap.size tb k (rows ++[row]) from
      MdW.add (HT3.o.upd HBB.o (Nat.le_of_lt hrz)) (by rw [HMI.o.1];exact htb) hbk HRL.o hrz (by have:=HZ.o.2.1;omega))
     have HMX:=Zh (HMI.o.snoc HS.o (by have h:=HMR.o;rwa [Ye (by rw [HPL.o];exact Zn _)] at h));clear hbk htb hrz;(go_wp2_with fail);go_roundw;(case rel=>exact ⟨i+1,rows ++[row],Oo,by go_num,HTX.o,HMX.o,HBw.o⟩);case measure=>simp [intOf];omega
   obtain ⟨b1,o1,t,e0,hpt,hct⟩:=HP.o.at_ hlt2;cases e0;(have cpt:=Zc HBw.o (Zn _) hct;have HPT:=Zh hpt;obtain ⟨ov,hov⟩:∃ ov,(row ++List.replicate (n-k) 0)[k]?=some ov:=⟨_,Zg (by rw [Yp,List.length_replicate,HRL.o];omega)⟩;have cb:=HRB.o.cellI hov;have fb0:=HRB.o.frozen k;have j2:(k:Int)<n:=Oo);have j3:0≤(k:Int):=Oo
   have HW4:=Zh (show Blk (wr.setCell ⟨rb,k,none⟩ (.int .i64 1152921504606846976)) rb 2 (Qbr ((row ++[1152921504606846976]) ++List.replicate (n-(k+1)) 0)) from by
    rw [←Rht HRL.o hlt2];exact HRB.o.setI rfl)
   have HB4:=Zh (show Below rb w3 (wr.setCell ⟨rb,k,none⟩ (.int .i64 1152921504606846976)) from HBB.o.setCell (Zn _) _);clear hpt hct hov;(by_cases hin:0≤t∧t<(nf:Int));rotate_left;{have HMC:=Zh (HMR.o.snoc HPT.o (.inr ⟨fun h=>hin ⟨h.2.1,by rw [HNF.o];exact h.2.2⟩,rfl⟩));have HRX:=Zh (show (row ++[(1152921504606846976:Int)]).length=k+1 by rw [Yp,HRL.o];rfl);by_cases hi0:t ≥ 0;{(have hi1:¬t<(nf:Int):=fun h=>hin ⟨hi0,h⟩);clear hin;exact Kcy};{clear hin;exact Kcy}};(obtain ⟨tn,rfl⟩:∃ tn:Nat,t=tn:=⟨t.toNat,Oo⟩;have hi0:(tn:Int) ≥ 0:=Oo);(have hi1:(tn:Int)<nf:=hin.2);obtain ⟨v,hv,hmc⟩:=HFP.o.2 tn (by rw [←HNF.o];omega);have HMC:=Zh (HMR.o.snoc HPT.o hmc);have HRX:=Zh (show (row ++[v]).length=k+1 by rw [Yp,HRL.o];rfl)
   have HW5:=Zh (show Blk ((wr.setCell ⟨rb,k,none⟩ (.int .i64 1152921504606846976)).setCell ⟨rb,k,none⟩ (.int .i64 v)) rb 2 (Qbr ((row ++[v]) ++List.replicate (n-(k+1)) 0)) from by
    have h1:=(HRB.o.setI (i:=k) (x:=1152921504606846976) rfl).setI (i:=k) (x:=v) rfl
    rwa [List.set_set,Rht HRL.o hlt2] at h1)
   have hfb:(wr.setCell ⟨rb,k,none⟩ (.int .i64 1152921504606846976)).cell? ⟨fb,tn,none⟩=some (.int .i64 v):=by{rw [World.cell?_of_block (w:=w3) (HB4.o.block fb HZ.o.1)];exact HF3.o.cellI hv};have htb4:(wr.setCell ⟨rb,k,none⟩ (.int .i64 1152921504606846976)).cell? ⟨tb,i,none⟩=some (.slice (some ⟨rb,0,none⟩) n n):=by{rw [World.cell?_of_block (w:=w3) (HB4.o.block tb HZ.o.2.1)];exact HX3.o};have hrb4:=World.cell?_setCell_same _ _ (.int .i64 1152921504606846976) cb;have hff:=HW4.o.frozen k;have HB5:=Zh (show Below rb w3 ((wr.setCell ⟨rb,k,none⟩ (.int .i64 1152921504606846976)).setCell ⟨rb,k,none⟩ (.int .i64 v)) from HB4.o.setCell (Zn _) _);clear hin hv hmc;(go_wp2_with fail);obtain ⟨w4,hw4⟩:=Zx (wr.setCell ⟨rb,k,none⟩ (.int .i64 1152921504606846976));rw [←hw4] at hfb htb4 hrb4 hff HW5 HB5 ⊢;clear hw4 HW4 HB4 cb fb0 htb cpt;refine Qbk 10 (S:=fun V=>V=w4.drew) Kf rfl (fun _=>?_);refine tkF 0 51 (h:=⟨_,tv,?_⟩);simp only [pE,List.set];refine tkF 1 52 (h:=⟨_,tv,?_⟩);simp only [pE,List.set];refine tkF 2 53 (h:=⟨_,tv,?_⟩);simp only [pE,List.set];refine tkK 3 54 (h:=⟨_,tv,?_⟩);simp only [pE,List.set];refine tkF 4 55 (h:=⟨_,tv,?_⟩);simp only [pE,List.set];refine tkF 5 56 (h:=⟨_,tv,?_⟩);simp only [pE,List.set];refine tkF 6 57 (h:=⟨_,tv,?_⟩);simp only [pE,List.set];refine tkF 7 58 (h:=⟨_,tv,?_⟩);simp only [pE,List.set];refine tkK 8 59 (h:=⟨_,tv,?_⟩);simp only [pE,List.set];refine tkF 9 60 (h:=⟨_,tv,?_⟩);simp only [pE,List.set];refine Qcb (k:=10) Kf rfl (fun K hK=>?_);go_simp;refine hK.out _ _ ?_;clear hK K;refine Qbv Kf ?_ _;(go_wp2_with fail);go_roundw;(case rel=>exact ⟨k+1,_,Oo,by go_num,HRX.o,HW5.o.drew,HMC.o,HB5.o.drew⟩);case measure=>simp [intOf];omega
def Qqa (ls:Lz):Nat→Int
 | 0=>0
 | k+1=>Qdg (Qdg (Qqa ls k) (Qas ls 0 (k+1))) (Qas ls (k+1) 0)
theorem Qza {x y:Int}(h:0≤x)(g:0≤y):0≤Qdg x y∧Qdg x y≤1152921504606846976:=by unfold Qdg;split <;> omega
theorem Ras {n:Nat} {ls:Lz} (hs:sqB (n+1) ls=true):∀ k,k≤n→0≤Qqa ls k∧Qqa ls k≤1152921504606846976
 | 0,_=>⟨Int.le_refl _,(by decide:(0:Int)≤1152921504606846976)⟩
 | k+1,h=>Qza (Qza (Ras hs k Oo).1 (Qmm hs Oo Oo).1).1 (Qmm hs Oo Oo).1
def TrpP (w:World)(N:Qak)(dep cap lim:Int)(n:Nat) (st:Pz) (e:Ending) (w':World):Prop :=
 (∃ b,PlB N dep cap lim st b∧match b with|some (p,k,c)=>∃ v,e=.returned (.tuple #[.int .i64 0,v])∧Qci w' v [(p,k)] c|none=>∃ d,Qpl N (Qif dep st) d∧Qra cap lim d st∧e=.returned (.tuple #[.int .i64 (Qqa d n),.nilIface]))∧Bw w w'
theorem Qvc (w:World)(g:Nat)(N:Qak)(dep cap lim:Int)(A:Oz)(n c:Nat) (st:Pz) (hg:Qfg w g N) (hok:Qar N) (hj:RdP w A n st) (hn:n≤900) :
 Calls prog 15 #[.pointer (some ⟨g,0,none⟩),Qia dep cap lim A n c] w (TrpP w N dep cap lim n st):=by
 obtain ⟨m,hmm⟩:=Zx N.ar.length;have HGA:=Zh (show ∀ V,Bw w V→Calls prog 39 #[.pointer (some ⟨g,0,none⟩)] V fun e w'=>e=.returned (.int .i64 m)∧V=w' from fun V hV=>by rw [hmm];exact Qdj g N V (hg.below hV));have HCK:=Zh (fun V (hV:Bw w V)=>Qhk m dep cap lim A n c st V (hj.below hV) Oo);have HPT:=Zh (fun V (hV:Bw w V)=>Qgm dep cap lim A n c st V (hj.below hV) Oo);have HMO:=Zh (fun V (hV:Bw w V) R d (hR:RdI V R (n+1) (Qif dep st))=>Qfd V g N R (n+1) d (Qif dep st) (hg.below hV) hok hR Oo);have HFT:=Zh (fun V (hV:Bw w V) T tc ls (ht:RdT V T (n+1) ls) hs=>Qjd dep cap lim A T n c tc st ls V (hj.below hV) ht hs Oo);have HOK:=Zh hok;have HMM:=Zh hmm;have HJL:=Zh hj.1;clear hg hok hj hmm;go_enter func15,ntmps15
 go_wp2_with fail
 (refine Qai ?_;intro w1 hw1);have HB1:=Zh (show Bw w w1 by rw [hw1];exact Qag);have HJ1:=Zh (show Blk w1 w.heap.size 42 #[.int .i64 dep,.int .i64 cap,.int .i64 lim,.slice A n c] by rw [hw1];exact Blk.new _ _ _);clear hw1;have HSX:=Zh (show ∀ V,Bw w1 V→V.cell? ⟨w.heap.size,0,none⟩=some (.int .i64 dep)∧V.cell? ⟨w.heap.size,1,none⟩=some (.int .i64 cap)∧V.cell? ⟨w.heap.size,2,none⟩=some (.int .i64 lim)∧V.cell? ⟨w.heap.size,3,none⟩=some (.slice A n c) from fun V hV=>(HJ1.o.below hV HJ1.o.lt).four);refine wp_region_held_drew (S:=fun V=>Bw w1 V) Kf (Zr _ _).drew (fun _=>?_);refine tz 0 11 ?_;refine tz 2 13 ?_;refine Zk 1 (fun K hK=>?_);go_simp;with_reducible refine (HGA.o _ (HB1.o.drew)).mono ?_
 rintro e w' ⟨rfl,rfl⟩;go_simp;refine hK.out _ _ (Zr _ _).drew (fun _=>?_);clear hK K;refine Zk 3 (fun K hK=>?_);go_simp;with_reducible refine (HCK.o _ (HB1.o.drew)).mono ?_
 cases hjb:Qbf m dep cap lim st with
 | some x =>
  obtain ⟨px,kx,cx⟩:=x;unfold ErP;rintro e w2 ⟨⟨v,rfl,hc⟩,hb2⟩;have HBX:=Zh ((Zr w1.heap.size w1).drew.trans hb2);have HPB:=Zh (show PlB N dep cap lim st (some (px,kx,cx)) from .inl ⟨_,by rw [←HMM.o];exact hjb,rfl⟩);clear hb2 hjb;go_simp;refine hK.out _ _ HBX.o (fun _=>?_);clear hK K;refine tz 4 6 ?_;refine Zd ?_;obtain ⟨tv,xv,rfl⟩:=Qaw hc;have HC:=Zh hc;clear hc HSX;go_wp2_with fail
  refine bodyPost_ret (v:=.tuple #[.int .i64 0,.iface tv xv]) (by simp [results,results15,go_sem]) rfl ?_;unfold TrpP;exact ⟨⟨some _,HPB.o,_,rfl,HC.o⟩,Zb HB1.o HBX.o⟩
 | none =>
  have HJK:=Zh (Qex hjb);unfold ErP;rintro e w2 ⟨rfl,hb2⟩;have HB2:=Zh ((Zr w1.heap.size w1).drew.trans hb2);have HJN0:=Zh (show Qbf N.ar.length dep cap lim st=none by rw [←HMM.o];exact hjb);clear hb2 hjb;go_simp;refine hK.out _ _ HB2.o (fun _=>?_);clear hK K;refine tz 4 6 ?_;refine Zd ?_;obtain ⟨x0,x1,x2,x3⟩:=HSX.o w2 HB2.o;go_wp2_with fail
  with_reducible refine (HPT.o w2 (Zb HB1.o HB2.o)).mono ?_
  unfold PtsP;rintro e w3 ⟨⟨R,d,rfl,hR⟩,hb3⟩;have HB3:=Zh (Zb HB2.o hb3);have HTX:=Zh (HMO.o w3 (Zb HB1.o HB3.o) R d hR);clear hR hb3 HB2 x0 x1 x2 x3 HPT HMO;go_wp2_with fail
  with_reducible refine HTX.o.mono ?_
  unfold MdlP;rintro e w4 ⟨⟨tb,rows,rfl,hrt,hmd⟩,hb4⟩;have HB4:=Zh (Zb HB3.o hb4);have HMD:=Zh hmd;have HSQ:=Zh (show sqB (n+1) rows=true by have:=hmd.sq HOK.o;rwa [Qgq,HJL.o] at this);have HFX:=Zh (HFT.o w4 (Zb HB1.o HB4.o) _ (n+1) rows hrt HSQ.o);have HRT:=Zh hrt;obtain ⟨x0,x1,x2,x3⟩:=HSX.o w4 HB4.o;clear hrt hmd hb4 HB3 HTX HFT;go_wp2_with fail
  with_reducible refine HFX.o.mono ?_
  clear HFX
  cases hfb:Qcm cap lim rows st with
  | some x =>obtain ⟨px,kx,cx⟩:=x;unfold ErP;rintro e w5 ⟨⟨v,rfl,hc⟩,hb5⟩;have HBX:=Zh (Zb HB4.o hb5);have HPB:=Zh (show PlB N dep cap lim st (some (px,kx,cx)) from .inr ⟨HJN0.o,rows,HMD.o,hfb.symm⟩);clear hb5 hfb x0 x1 x2 x3;obtain ⟨tv,xv,rfl⟩:=Qaw hc;have HC:=Zh hc;clear hc HSX;(go_wp2_with fail);refine bodyPost_ret (v:=.tuple #[.int .i64 0,.iface tv xv]) (by simp [results,results15,go_sem]) rfl ?_;unfold TrpP;exact ⟨⟨some _,HPB.o,_,rfl,HC.o⟩,Zb HB1.o HBX.o⟩
  | none =>
   unfold ErP;rintro e w5 ⟨rfl,hb5⟩;have HB5:=Zh (Zb HB1.o (Zb HB4.o hb5));have HFI:=Zh (Qrq.1 hfb);have HPB:=Zh (show PlB N dep cap lim st none from .inr ⟨HJN0.o,rows,HMD.o,hfb.symm⟩);have HT5:=Zh (HRT.o.below hb5);clear hb5 hfb x0 x1 x2 x3 HRT HB4 HSX;(go_wp2_with fail);(go_loopw [9,10] (fun z q W=>∃ k:Nat,k≤n∧q=.int .i64 ((k:Int)+1)∧z=.int .i64 (Qqa rows k)∧Bw w5 W) (fun _ q _=>n+1-(intOf q).toNat));case atStart=>exact ⟨0,Nat.zero_le _,rfl,rfl,Zr _ _⟩
   case round =>
    obtain ⟨k,hk,rfl,rfl,hb⟩:=hrel;have HB:=Zh hb;clear hb;(by_cases hlt:k<n);rotate_left;{(obtain rfl:k=n:=Oo);(have i1:¬(k:Int)+1<k+1:=Oo);(go_wp2_with fail);refine bodyPost_ret (v:=.tuple #[.int .i64 (Qqa rows k),.nilIface]) (by simp [results,results15,go_sem]) rfl ?_;unfold TrpP;exact ⟨⟨none,HPB.o,rows,HMD.o,HFI.o,rfl⟩,Zb HB5.o HB.o⟩};have hsq:=Qlq HSQ.o;have htr:=HT5.o.below HB.o;obtain ⟨b,o,b2,o2,c2,e1,r1,r2⟩:=htr.two hsq (i:=0) (j:=k+1) Oo Oo;obtain ⟨b',o',b3,o3,c3,e2,r3,r4⟩:=htr.two hsq (i:=k+1) (j:=0) Oo Oo;cases e1;cases e2;rw [Yz] at r1 r3;rw [Nat.add_zero] at r4;have h1:=Ras HSQ.o k hk;have h2:=Qmm HSQ.o (i:=0) (j:=k+1) Oo Oo;have h3:=Qmm HSQ.o (i:=k+1) (j:=0) Oo Oo;unfold INF at h2 h3;have HTN:=Zh (show Qqa rows (k+1)=Qdg (Qdg (Qqa rows k) (Qas rows 0 (k+1))) (Qas rows (k+1) 0) from rfl);generalize Qqa rows k=x at *;generalize Qas rows 0 (k+1)=y at *;generalize Qas rows (k+1) 0=z at *
    have HSX:=Zh (show ∀ V,Bw wr V→V.cell? ⟨tb,0,none⟩=some (.slice (some ⟨b2,o2,none⟩) (n+1) c2)∧V.cell? ⟨b2,o2+(k+1),none⟩=some (.int .i64 y)∧V.cell? ⟨tb,k+1,none⟩=some (.slice (some ⟨b3,o3,none⟩) (n+1) c3)∧V.cell? ⟨b3,o3,none⟩=some (.int .i64 z) from
     fun V hV=>⟨Zc hV (Zn _) r1,Zc hV (Zn _) r2,Zc hV (Zn _) r3,Zc hV (Zn _) r4⟩)
    (have i1:0≤(k:Int)+1:=Oo);(have i2:(k:Int)+1<n+1:=Oo);(have i5:0<(n:Int)+1:=Oo);(have n1:((k:Int)+1).toNat=k+1:=Oo);(obtain ⟨w6,hw6⟩:=Zx ((wr.alloc (.cells #[.int .i64 x,.int .i64 y,.int .i64 z] 2)).drew);have hb6:Bw wr w6:=by rw [hw6];exact ((Zr _ _).alloc (Zn _) _).drew);(have hrd:RdI w6 (some ⟨wr.heap.size,0,none⟩) 3 [x,y,z]:=by rw [hw6];exact Blk.rdI (t:=2) (l:=[x,y,z]) (Blk.new wr 2 (Qbr [x,y,z])).drew rfl);have HSU:=Zh (Qjb _ 3 w6 x y z hrd h1 h2 h3);have HB6:=Zh hb6;have HW6:=Zh hw6;clear r1 r2 r3 r4 htr hsq h1 h2 h3 hw6 hb6 hrd;(go_wp2_with fail);(refine wp_region_held_drew (S:=fun V=>Bw wr V) Kf (Zr _ _).drew (fun _=>?_);refine tzd 0 34 ?_;refine tzd 4 38 ?_;refine tzd 8 42 ?_;refine tz 12 46 ?_;refine Zk 13 (fun K hK=>?_);go_simp;rw [←HW6.o];refine hK.out _ _ HB6.o (fun _=>?_);clear hK K;refine Zk 14 (fun K hK=>?_);go_simp;with_reducible refine HSU.o.mono ?_);rintro e w' ⟨rfl,rfl⟩;go_simp;refine hK.out _ _ HB6.o (fun _=>?_);clear hK K;refine tz 15 9 ?_;refine Zd ?_;(go_wp2_with fail);go_roundw;(case rel=>exact ⟨k+1,Oo,by go_num,by rw [HTN.o],Zb HB.o HB6.o⟩);case measure=>simp [intOf];omega
