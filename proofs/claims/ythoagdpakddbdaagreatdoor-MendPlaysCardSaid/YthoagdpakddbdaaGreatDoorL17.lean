/- Parts of the proof: MdF, MdA, MdY, Sbo, RfC, Pd, RoG. -/
import Derived.Test.YthoagdpakddbdaaGreatDoorL16
namespace Go.Proofs.YthoagdpakddbdaaGreatDoor
open Go.RowKit Go.Proofs.Tryz
attribute [local go_sem ↓] Go.wp_at_zero Go.wp_at_succ
theorem infoCh:(Tryz.prog.info? 83).map (fun i=>(i.zero,i.size,i.bytes))=some (some (.agg #[.int .i64 0,.int .i64 0,.int .i64 0,.int .i64 0,.int .i64 0]),5,40):=by kernel_rfl
set_option maxHeartbeats 2000000 in
theorem to19_any (A:Option Addr)(n c:Nat)(l:List Chn)(w:World)(h:Qig w A n l)(hn:n≤1000000) :
 Calls prog 20 #[.slice A n c] w fun r w'=>∃ A' c',r=.returned (.slice A' n c')∧Own w' w.heap.size 83 5 A' n c' (Qcf l)∧Below w.heap.size w w':=by
 have HL:=Zh h;have HN:=Zh h.1;clear h
 go_enter func20,ntmps20
 go_wp2_with fail
 go_loopw [3,4] (fun z q V=>Below w.heap.size w V∧∃ (i:Nat) (A':Option Addr) (cp:Nat),i≤n∧q=.int .i64 i∧z=.slice A' i cp∧Own V w.heap.size 83 5 A' i cp (Qcf (l.take i))) (fun _ q _=>n-(intOf q).toNat)
 case atStart=>exact ⟨Zr _ _,0,none,0,Nat.zero_le _,rfl,rfl,Own.nil _ _ _ _⟩
 case round =>
  obtain ⟨hbl,i,A',cp,hi,rfl,rfl,hown⟩:=hrel;have HO:=Zh hown;have HBL:=Zh hbl;clear hown
  by_cases hlt:i<n
  rotate_left
  · obtain rfl:i=n:=by omega
    have i3:¬((i:Int)<(i:Int)):=by omega
    go_wp2_with fail
    go_ret
    refine ⟨A',cp,rfl,?_,hbl⟩;have:=HO.out;rw [Ye (by rw [HN.out];exact Zn _)] at this;exact this
  obtain ⟨lb,lo,x,y,z,u,v,rfl,hc,c1,c2,c3,c4,c5⟩:=HL.out.at_ hlt;have HQ:=Zh (Qqt hc);simp only at HQ
  have HSX:=Zh (show ∀ V,Below w.heap.size w V→V.cell? ⟨lb,lo+i*5,none⟩=some (.int .i64 x)∧V.cell? ⟨lb,lo+i*5+1,none⟩=some (.int .i64 y)∧V.cell? ⟨lb,lo+i*5+2,none⟩=some (.int .i64 z)∧V.cell? ⟨lb,lo+i*5+3,none⟩=some (.int .i64 u)∧V.cell? ⟨lb,lo+i*5+4,none⟩=some (.int .i64 v) from
   fun V hV=>⟨Zc hV (Zn _) c1,Zc hV (Zn _) c2,Zc hV (Zn _) c3,Zc hV (Zn _) c4,Zc hV (Zn _) c5⟩)
  have i1:(i:Int)<(n:Int):=by omega
  have i2:(0:Int)≤(i:Int):=by omega
  clear hc c1 c2 c3 c4 c5 hbl
  go_wp2_with fail
  refine wp_region_held_drew (S:=fun V=>Below w.heap.size w V) (by kernel_rfl) HBL.out.drew (fun _=>?_);refine tz 0 11 ?_;refine tz 1 12 ?_;refine tz 2 13 ?_;refine tz 3 14 ?_;refine tz 4 15 ?_;refine tz 5 16 ?_;refine tz 6 17 ?_;refine tz 7 18 ?_;refine tz 8 19 ?_;refine tz 9 20 ?_;refine tz 10 21 ?_;refine tz 11 22 ?_;refine tz 12 23 ?_;refine tz 13 24 ?_;refine tz 14 25 ?_;refine tz 15 26 ?_;refine tz 16 27 ?_;refine tz 17 28 ?_;refine tz 18 29 ?_;refine tz 19 30 ?_;refine tz 20 31 ?_;refine tz 21 32 ?_;refine tz 22 33 ?_;refine tz 23 34 ?_;refine tz 24 35 ?_;refine tz 25 36 ?_;refine tz 26 37 ?_;refine Zk 27 (fun K hK=>?_);go_simp;refine hK.out _ _ (Zb HBL.out Qaf) (fun _=>?_);clear hK K;obtain ⟨W5,hW5⟩:∃ W5,W5=(wr.alloc (.cells #[.int .i64 x,.int .i64 y,.int .i64 z,.int .i64 u,.int .i64 v] 83)).drew:=⟨_,rfl⟩;rw [←hW5];have hb5:Below wr.heap.size wr W5:=by rw [hW5];exact Qaf
  have hrd:Rds W5 5 (some ⟨wr.heap.size,0,none⟩) 1 [.int .i64 x,.int .i64 y,.int .i64 z,.int .i64 u,.int .i64 v]:=by rw [hW5];exact (Blk.new wr 83 #[.int .i64 x,.int .i64 y,.int .i64 z,.int .i64 u,.int .i64 v]).drew.rds rfl
  have hone:∀ e∈[Value.int .i64 x,.int .i64 y,.int .i64 z,.int .i64 u,.int .i64 v],e.oneCell'=true:=Qvk [(x,y,z,u,v)];have hown:=HO.out.below hb5;have HB5:=Zh (Zb HBL.out hb5);have hsz:w.heap.size≤W5.heap.size:=HB5.out.size;clear hW5 hb5;refine Zk 28 (fun K hK=>?_);with_reducible refine Qar (some 39) rfl rfl (.tmp 11) (.tmp 38) 60 rfl 83 _ 5 40 infoCh underlying60 rfl (by omega) rfl rfl hown hrd hone (by omega) (by omega) hsz ?_
  intro A3 c3 w8 ho8 hg8 hat8;have hb8:=Zo HB5.out hg8 hown hsz;refine hK.out _ _ hb8 (fun _=>?_);clear hK K;simp only [Act.put,Yi,Yj,Yk];refine tz 29 3 ?_;refine Zd ?_;have HB8:=Zh hb8;have HO8:=Zh (show Own w8 w.heap.size 83 5 A3 (i+1) c3 (Qcf (l.take (i+1))) by rw [HQ.out];exact ho8)
  clear hown hrd hsz ho8 hg8 hat8 hb8 HSX
  go_wp2_with fail
  go_roundw
  case rel=>exact ⟨HB8.out,i+1,A3,c3,by omega,by go_num,rfl,HO8.out⟩
  case measure=>simp [intOf];omega
theorem Own.rdCm {W:World}{B n c:Nat}{A:Option Addr}{l:List Chn}{G:Nat→Prop} (h:Own W B 83 5 A n c (Qcf l)) (hG:∀ b,B≤b→b<W.heap.size→G b):Qig (msk W G) A n l :=
 ⟨h.rds.rdC.1,fun i x hx=>by
  obtain ⟨b,o,e,h1,h2,h3,h4,h5⟩:=h.rds.rdC.2 i x hx;have hb:=h.lt b (by rw [e];rfl);exact ⟨b,o,e,Qao.2 ⟨hG b hb.1 hb.2,h1⟩,Qao.2 ⟨hG b hb.1 hb.2,h2⟩,Qao.2 ⟨hG b hb.1 hb.2,h3⟩,Qao.2 ⟨hG b hb.1 hb.2,h4⟩,Qao.2 ⟨hG b hb.1 hb.2,h5⟩⟩⟩
structure GO (W:World) (F G:Nat→Prop) (g o:Nat) (N:Qai) (ls:List (List Int)):Prop where
 gr:GrO W F g N
 ov:Qfm (msk W G) o N.ar ls
 dis:∀ b,G b→¬F b
 lt:∀ b,G b→b<W.heap.size
theorem GO.below {W W':World}{F G:Nat→Prop}{g o:Nat}{N:Qai} {ls:List (List Int)} (h:GO W F G g o N ls) (hb:Below W.heap.size W W'):GO W' F G g o N ls :=
 ⟨h.gr.below hb,h.ov.le (Qax.below hb).msk,h.dis,fun b hb'=>Yu (h.lt b hb') hb.size⟩
theorem GO.ovF {W:World}{F G:Nat→Prop}{g o:Nat}{N:Qai} {ls:List (List Int)} (h:GO W F G g o N ls):Qfm (msk W (fun b=>¬F b)) o N.ar ls:=h.ov.le (Qay (fun b hb=>h.dis b hb))
theorem GO.ovR {W:World}{F G:Nat→Prop}{g o:Nat}{N:Qai} {ls:List (List Int)} (h:GO W F G g o N ls):Qfm W o N.ar ls:=h.ov.le (Qbh _ _)
def Qlk (M:Nat)(f:Nat→Bool)(c:Nat):List Bool:=(List.range M).map (fun q=>decide (q<c) && f q)
theorem Qhl (M:Nat)(f:Nat→Bool)(c:Nat):(Qlk M f c).length=M:=by simp [Qlk]
theorem Qjn {M q:Nat}(f:Nat→Bool)(c:Nat)(hq:q<M):(Qlk M f c)[q]?=some (decide (q<c) && f q):=by
 unfold Qlk;rw [Yt,List.getElem?_range hq]
 rfl
theorem Qys (M:Nat)(f:Nat→Bool):Qlk M f 0=List.replicate M false:=by
 apply List.ext_getElem?
 intro q
 by_cases hq:q<M
 · rw [Qjn f 0 hq,List.getElem?_replicate,if_pos hq]
   simp
 · rw [Yd (by rw [Qhl];omega),Yd (by simp;omega)]
theorem fstR_all (M:Nat)(f:Nat→Bool):Qlk M f M=(List.range M).map f:=by
 unfold Qlk;refine List.map_congr_left (fun q hq=>?_);rw [decide_eq_true (List.mem_range.1 hq),Bool.true_and]
theorem Qxz {M:Nat}{f:Nat→Bool}{c:Nat}(h:f c=false):Qlk M f (c+1)=Qlk M f c:=by
 unfold Qlk;refine List.map_congr_left (fun q hq=>?_)
 by_cases e:q=c
 · subst e
   rw [h,Bool.and_false,Bool.and_false]
 · congr 1
   exact decide_eq_decide.2 (by omega)
theorem fstR_yes {M:Nat}{f:Nat→Bool}{c:Nat}(hc:c<M)(h:f c=true):Qlk M f (c+1)=(Qlk M f c).set c true:=by
 apply List.ext_getElem?
 intro q
 by_cases hq:q<M
 · rw [Qjn f _ hq]
   by_cases e:c=q
   · subst e
     rw [Yg (by rw [Qhl];exact hc),h];simp
   · rw [Yh e,Qjn f _ hq]
     congr 2
     exact decide_eq_decide.2 (by omega)
 · rw [Yd (by rw [Qhl];omega),Yd (by rw [Yq,Qhl];omega)]
theorem Qsm {α:Type}(l:List α)(r s:α){i:Nat}(h:l.length=i):(l ++[r])[i]?=some r∧(l ++[r]).set i s=l ++[s]:=by
 subst h
 constructor
 · rw [Yb (Zn _),Yy]
   rfl
 · rw [List.set_append_right _ _ (Zn _),Yy]
   rfl
set_option maxRecDepth 20000 in
set_option maxHeartbeats 8000000 in
theorem diff_ok (w:World)(o:Nat)(ar:List Tri) (ls:List (List Int)) (A B:Option Addr) (NC cA cB:Nat) (a b:List Int) (ho:Qfm w o ar ls) (hA:RdI w A NC a) (hB:RdI w B NC b) (hNCe:NC=Qbr (gatesOf ar ls)) (hNC:NC≤1000000000) (hL6:ls.length≤6) (hlv:∀ l∈ls,(Qaj l).toNat≤4096) (har:ar.length≤1000000) :
 Calls prog 12 #[.pointer (some ⟨o,0,none⟩),.slice A NC cA,.slice B NC cB] w (TlP w ls.length (tb ls (difI ar ls a b))):=by
 have HSZ:=Zh (Qfr o ar ls w ho);have HLV:=Zh (Qhe o ar ls w ho);have HO:=Zh ho;have HA:=Zh hA;have HB:=Zh hB;have HMO:=Zh hlv;have HNC:=Zh hNCe;rw [←hNCe] at HSZ;obtain ⟨L,hLe⟩:∃ L,L=ls.length:=⟨_,rfl⟩;rw [←hLe] at HLV hL6 ⊢;have HLE:=Zh hLe;obtain ⟨F,hF⟩:∃ F,F=difI ar ls a b:=⟨_,rfl⟩;have HF:=Zh hF;rw [←hF];have hmkQ:=Qql L (by omega);clear ho hA hB hlv hNCe hLe hF
 go_enter func12,ntmps12
 go_wp2_with fail
 with_reducible refine HSZ.out.mono ?_
 rintro e w' ⟨rfl,rfl⟩
 go_wp2_with fail
 with_reducible refine HLV.out.mono ?_
 rintro e w' ⟨rfl,rfl⟩
 go_wp2_with fail
 (refine Qag ?_;intro w2 hw2)
 have hb2:Below w.heap.size w w2:=by rw [hw2];exact Qaf
 have hT2:TlW w2 w.heap.size w.heap.size (List.replicate L (.slice none 0 0)) [] []:=by
  rw [hw2];refine TlW.start ?_ (Zn _);have e:Qbd (.slice none 0 0) L=(List.replicate L (Value.slice none 0 0)).toArray:=by simp [Qbd]
  rw [e];exact Blk.new _ _ _
 obtain ⟨T,hTe⟩:∃ T,T=w.heap.size:=⟨_,rfl⟩;have HTE:=Zh hTe;rw [←hTe] at hT2 hb2 ⊢;clear hw2 hmkQ HLV HSZ hTe
 go_loopw [38] (fun q V=>Below T w V∧∃ (i:Nat) (cs:List Value) (bs:List Nat),i≤L∧q=.int .i64 i∧cs.length=L∧TlW V T T cs bs ((tb ls F).take i)) (fun q _=>L-(intOf q).toNat)
 case atStart=>exact ⟨hb2,0,List.replicate L (.slice none 0 0),[],Nat.zero_le _,rfl,by simp,by simpa using hT2⟩
 case round =>
  clear hb2 hT2;obtain ⟨hbl,i,cs,bs,hi,rfl,hcl,hT⟩:=hrel
  by_cases hlt:i<L
  rotate_left
  · obtain rfl:i=L:=by omega
    have i3:¬((i:Int)<(i:Int)):=by omega
    rw [Ye (by rw [Qfy,←HLE.out];exact Zn _)] at hT;have HT:=Zh hT;clear hT hcl
    go_wp2_with fail
    refine bodyPost_ret (v:=.tuple #[.slice (some ⟨T,0,none⟩) i i,.nilIface]) (by simp [results,results12,go_sem]) rfl ?_;exact ⟨T,cs,bs,rfl,by rw [←HTE.out];exact HT.out,by rw [←HTE.out];exact hbl⟩
  have hbw:Below w.heap.size w wr:=by rw [←HTE.out];exact hbl
  obtain ⟨r0,hr0⟩:∃ r0,ls[i]?=some r0:=⟨_,Zg (by rw [←HLE.out];exact hlt)⟩;have hM4:=HMO.out r0 (Zm hr0);obtain ⟨M,hM⟩:∃ M,M=(Qaj r0).toNat:=⟨_,rfl⟩;rw [←hM] at hM4;have HR0:=Zh hr0;have HMM:=Zh hM;have HCE:=Zh (Qfp o i M ar ls r0 wr (HO.out.below hbw) hr0 (by rw [←HLE.out];omega) hM.symm);have hmk:=Qft M (by omega);have hrl:((tb ls F).take i).length=i:=by rw [Yw,Qfy,←HLE.out];omega
  have HRL:=Zh hrl;have hpush:=hT.push (M:=M) (by rw [hrl,hcl];exact hlt);rw [hrl,←Qys M (F i)] at hpush;have HPU:=Zh hpush;have hld:=hpush.cell (i:=i) (Yg (by rw [hcl];exact hlt));have HCL:=Zh hcl;have hTl:=hT.box.lt;have hTf:=hT.box.frozen i;have hcc:wr.cell? ⟨T,i,none⟩=cs[i]?:=by rw [hT.box.cell];simp
  obtain ⟨u0,hu0⟩:∃ u,cs[i]?=some u:=⟨_,Zg (by rw [hcl];exact hlt)⟩;rw [hu0] at hcc
  have HTN:=Zh (show (tb ls F).take (i+1)=(tb ls F).take i ++[Qlk M (F i) M] by
   have h1:=Qei (f:=F) hr0;rw [Yf (Zs h1).1,(Zs h1).2,fstR_all,hM])
  have i3:(i:Int)<(L:Int):=by omega
  have i4:(0:Int)≤(i:Int):=by omega
  clear hr0 hM hpush hT hu0 hcl hrl
  go_wp2_with fail
  with_reducible refine HCE.out.mono ?_
  rintro e w' ⟨rfl,rfl⟩
  go_wp2_with fail
  (refine Qag ?_;intro w2 hw2)
  have hT2:TlW w2 T T (cs.set i (.slice (some ⟨wr.heap.size,0,none⟩) M M)) (bs ++[wr.heap.size]) ((tb ls F).take i ++[Qlk M (F i) 0]):=by rw [hw2];exact HPU.out
  have hb2:Below T w w2:=by
   rw [hw2];exact (hbl.setCell (Zn T) _).alloc (by simp only [World.size_setCell];omega) _
  have HC2:=Zh (show (cs.set i (.slice (some ⟨wr.heap.size,0,none⟩) M M)).length=L by rw [Yq];exact HCL.out)
  have HD2:=Zh (show (cs.set i (.slice (some ⟨wr.heap.size,0,none⟩) M M))[i]?=some (.slice (some ⟨wr.heap.size,0,none⟩) M M) from Yg (by rw [HCL.out];exact hlt))
  have HE2:=Zh (show (bs ++[wr.heap.size])[i]?=some wr.heap.size by
   have h1:=hT2.n;rw [Yp,Yp,HRL.out] at h1;simp only [List.length_cons,List.length_nil] at h1;exact (Qsm bs wr.heap.size 0 (by omega)).1)
  generalize cs.set i (.slice (some ⟨wr.heap.size,0,none⟩) M M)=cs2 at *;generalize bs ++[wr.heap.size]=bs2 at *;generalize wr.heap.size=rb at *;clear hw2 hmk HPU HCE hld hTl hTf hcc HCL hbl hbw
  go_loopw [54] (fun q V=>Below T w V∧∃ c:Nat,c≤M∧q=.int .i64 c∧TlW V T T cs2 bs2 ((tb ls F).take i ++[Qlk M (F i) c])) (fun q _=>M-(intOf q).toNat)
  case atStart=>exact ⟨hb2,0,Nat.zero_le _,rfl,hT2⟩
  case round =>
   clear hb2 hT2;obtain ⟨hbl,c,hc,rfl,hT⟩:=hrel
   by_cases hcM:c<M
   rotate_left
   · obtain rfl:c=M:=by omega
     have j1:¬((c:Int)<(c:Int)):=by omega
     rw [←HTN.out] at hT;have HT:=Zh hT;clear hT
     go_wp2_with fail
     go_roundw
     case rel=>exact ⟨hbl,i+1,cs2,bs2,by omega,by go_num,HC2.out,HT.out⟩
     case measure=>simp [intOf];omega
   have hbw:Below w.heap.size w wr:=by rw [←HTE.out];exact hbl
   have HT:=Zh hT;have HBW:=Zh hbw;obtain ⟨x,hx⟩:∃ x,(gateRow ar r0)[c]?=some x:=⟨_,Zg (by rw [Qaq,←HMM.out];exact hcM)⟩;have HX:=Zh hx;have HSZ:=Zh (show Qyo ar ls i c=szG x by unfold Qyo;rw [Qes HR0.out,Ya,hx];rfl)
   obtain ⟨at2,hat⟩:∃ at2,at2=Qso ar ls i c:=⟨_,rfl⟩;have HAT:=Zh hat
   have hfit:at2+szG x≤NC:=by
    have e1:=Qgb (gateRow ar r0) (c+1);have e2:=Qef (gatesOf ar ls) (i+1);rw [Qck (Qbj HR0.out),←HNC.out] at e2;rw [Qcl hx] at e1;rw [hat];unfold Qso;rw [Qes HR0.out];omega
   have HFI:=Zh (show F i c=Qxk a b at2 (szG x) by rw [HF.out];unfold difI;rw [HSZ.out,←hat])
   have j1:(c:Int)<(M:Int):=by omega
   have j2:(0:Int)≤(c:Int):=by omega
   clear hT hx hat
   by_cases hs0:szG x=0
   · have HNO:=Zh (show TlW wr T T cs2 bs2 ((tb ls F).take i ++[Qlk M (F i) (c+1)]) by
      rw [Qxz (by rw [HFI.out,hs0];rfl)];exact HT.out)
     have HATN:=Zh (at0_no o i c ar ls r0 x wr (HO.out.below hbw) HR0.out HX.out hs0 (by rw [←HLE.out];omega));clear hbw hs0 HT
     go_wp2_with fail
     with_reducible refine HATN.out.mono ?_
     rintro e w3 ⟨rfl,hb3⟩;have HT3:=Zh (HNO.out.below hb3);have hbl3:Below T w w3:=hbl.trans (hb3.mono (by have:=HNO.out.box.lt;omega));clear hb3 HATN HNO
     go_wp2_with fail
     go_roundw
     case rel=>exact ⟨hbl3,c+1,by omega,by go_num,HT3.out⟩
     case measure=>simp [intOf];omega
   have HATN:=Zh (at0_ok o i c ar ls r0 x wr (HO.out.below hbw) HR0.out HX.out hs0 (by rw [←HLE.out];omega) (by rw [←HNC.out];omega))
   have he0:Qbr ((gatesOf ar ls).take i)+Qda ((gateRow ar r0).take c)=at2:=by
    rw [HAT.out];unfold Qso;rw [Qes HR0.out]
   rw [he0] at HATN;obtain ⟨SZ,hSZ⟩:∃ SZ,SZ=szG x:=⟨_,rfl⟩;have HSE:=Zh hSZ;rw [←hSZ] at hfit hs0 HFI;have j3:(0:Int)≤(at2:Int):=by omega
   clear he0 hSZ hbw
   go_wp2_with fail
   with_reducible refine HATN.out.mono ?_
   rintro e w3 ⟨rfl,hb3⟩;have HT3:=Zh (HT.out.below hb3);have hbl3:Below T w w3:=hbl.trans (hb3.mono (by have:=HT.out.box.lt;omega));have HBW3:=Zh (Zb HBW.out hb3);have HGT:=Zh (oGate_ok o i c ar ls r0 x w3 (HO.out.below HBW3.out) HR0.out (by rw [←HLE.out];omega) HX.out har);clear hb3 HATN HT hbl
   go_wp2_with fail
   with_reducible refine HGT.out.mono ?_
   rintro e w4 ⟨A1,n1,c1,A2,n2,c2,rfl,hr1,hr2,hb4⟩
   have hmul:(n1:Int)*(n2:Int)=(SZ:Int):=by
    rw [HSE.out];unfold szG;rw [hr1.1,hr2.1];simp
   have HT4:=Zh (HT3.out.below hb4);have hbl4:Below T w w4:=hbl3.trans (hb4.mono (by have:=HT3.out.box.lt;omega));have hwz:IntKind.i64.wrap (SZ:Int)=(SZ:Int):=IntWalk.i64_in _ (by omega);clear hb4 HGT HT3 hbl3 hr1 hr2
   go_wp2_with fail
   (refine Qag ?_;intro w5 hw5)
   have hb5:Below w4.heap.size w4 w5:=by rw [hw5];exact Qaf
   have HT5:=Zh (HT4.out.below hb5);have hbl5:Below T w w5:=hbl4.trans (hb5.mono (by have:=HT4.out.box.lt;omega));clear hw5 hb5 HT4 hbl4
   go_loopw [76] (fun q V=>Below T w V∧TlW V T T cs2 bs2 ((tb ls F).take i ++[Qlk M (F i) c])∧∃ k:Nat,k≤SZ∧q=.int .i64 k∧Qxk a b at2 k=false) (fun q _=>SZ-(intOf q).toNat)
   case atStart=>exact ⟨hbl5,HT5.out,0,Nat.zero_le _,rfl,rfl⟩
   case round =>
    clear hbl5 HT5;obtain ⟨hbl,hT,k,hk,rfl,hdk⟩:=hrel;have HT:=Zh hT;have HDK:=Zh hdk;clear hT hdk
    by_cases hkS:k<SZ
    rotate_left
    · obtain rfl:k=SZ:=by omega
      have k1:¬((k:Int)<(k:Int)):=by omega
      have HNO:=Zh (show TlW wr T T cs2 bs2 ((tb ls F).take i ++[Qlk M (F i) (c+1)]) by
       rw [Qxz (by rw [HFI.out];exact HDK.out)];exact HT.out)
      clear HT
      go_wp2_with fail
      go_roundw
      case rel=>exact ⟨hbl,c+1,by omega,by go_num,HNO.out⟩
      case measure=>simp [intOf];omega
    have hbw:Below w.heap.size w wr:=by rw [←HTE.out];exact hbl
    obtain ⟨ab,ao,y,rfl,hy,cy⟩:=(HA.out.below hbw).at_ (show at2+k<NC by omega)
    obtain ⟨bb,bo,z,rfl,hz,cz⟩:=(HB.out.below hbw).at_ (show at2+k<NC by omega)
    have HY:=Zh hy;have HZ:=Zh hz;obtain ⟨K,hK⟩:∃ K,K=at2+k:=⟨_,rfl⟩;rw [←hK] at cy cz;have k1:(k:Int)<(SZ:Int):=by omega
    have k2:IntKind.i64.wrap ((at2:Int)+(k:Int))=(K:Int):=by rw [IntWalk.i64_in _ (by omega)];omega
    have k2':(at2:Int)+(k:Int)=(K:Int):=by omega
    have k3:(0:Int)≤(K:Int):=by omega
    have k4:(K:Int)<(NC:Int):=by omega
    have HKE:=Zh hK
    have HDN:=Zh (show Qxk a b at2 (k+1)=(y != z) by
     rw [Qya,HDK.out,Ya,Ya,hy,hz];simp)
    clear hy hz hK hbw
    by_cases hyz:y=z
    · have HD2:=Zh (show Qxk a b at2 (k+1)=false by rw [HDN.out];simp [hyz])
      subst hyz
      go_wp2_with fail
      go_quiet (fail)
      go_wp2_with fail
      go_roundw
      case rel=>exact ⟨Qaf,HT.out.below Qaf,k+1,by omega,by go_num,HD2.out⟩
      case measure=>simp [intOf];omega
    · have e1:(y != z)=true:=by simpa using hyz
      have e2:(y == z)=false:=by simpa using hyz
      have HFT:=Zh (show F i c=true by
       rw [HFI.out]
       cases hd:Qxk a b at2 SZ with
       | true=>rfl
       | false =>
        have h1:=Qiw.1 hd k hkS;have h2:=HDN.out;rw [e1] at h2;rw [Qiw.2 (fun j hj=>Qiw.1 hd j (by omega))] at h2
        cases h2)
      have HSL:=Zh (Qsm ((tb ls F).take i) (Qlk M (F i) c) ((Qlk M (F i) c).set c true) HRL.out);obtain ⟨rb2,hrb,hcs,hbk,hBb,hbT⟩:=HT.out.get HSL.out.1;have hcc:=HT.out.cell hcs;rw [Qhl] at hcc;have hfr:=hbk.frozen c;have hcb:=hbk.cellB (Qjn (F i) c hcM);have HRB:=Zh hrb;clear hyz hrb hcs hbk
      go_wp2_with fail
      go_quiet (fail)
      have HY:=Zh (show TlW ((wr.drewN nq).setCell ⟨rb2,c,none⟩ (.bool true)) T T cs2 bs2 ((tb ls F).take i ++[Qlk M (F i) (c+1)]) by
       rw [fstR_yes hcM HFT.out,←HSL.out.2];exact (HT.out.below (Qaf)).mark HRB.out HSL.out.1 true)
      have hb9:Below T w ((wr.drewN nq).setCell ⟨rb2,c,none⟩ (.bool true)):=Below.setCell (Qaf) (by omega) _;clear HT
      go_wp2_with fail
      go_roundw
      case rel=>exact ⟨hb9,c+1,by omega,by go_num,HY.out⟩
      case measure=>simp [intOf];omega
theorem Qtn {α:Type}{l:List α}{k:Nat}{a:α} (h:l[k]?=some a) (f:α→Bool):(l.take (k+1)).any f=((l.take k).any f || f a):=by
 rw [Yf (Zs h).1,(Zs h).2,List.any_append];simp
def mbI (l:List Int)(q:Int):List Int:=(l.zipIdx.filter (fun p=>p.1 == q)).map (fun p=>(p.2:Int))
theorem mbI_snoc (l:List Int)(q a:Int):mbI (l ++[a]) q=mbI l q ++(if a=q then [(l.length:Int)] else []):=by
 unfold mbI;rw [List.zipIdx_append,List.filter_append,List.map_append]
 congr 1
 by_cases h:a=q <;> simp [h]
theorem Qtm {l:List Int}{q a:Int}{k:Nat} (h:l[k]?=some a):mbI (l.take (k+1)) q=mbI (l.take k) q ++(if a=q then [(k:Int)] else []):=by
 have hlt:=(Zs h).1;rw [Yf hlt,(Zs h).2,mbI_snoc,Yw,Nat.min_eq_left (by omega)]
theorem Qzt (l:List Int)(q:Int):(mbI l q).length≤l.length:=by
 unfold mbI;rw [List.length_map];refine Yx (List.length_filter_le _ _) ?_;rw [List.length_zipIdx];exact Zn _
theorem Qru {l:List Int}{q x:Int}:x∈mbI l q↔∃ i:Nat,x=(i:Int)∧l[i]?=some q:=by
 unfold mbI;rw [List.mem_map]
 constructor
 · rintro ⟨⟨a,i⟩,h1,rfl⟩
   rw [List.mem_filter] at h1;have h2:=List.mem_zipIdx_iff_getElem?.1 h1.1;have h3:=h1.2;simp only [beq_iff_eq] at h3 h2;exact ⟨i,rfl,by rw [←h3];exact h2⟩
 · rintro ⟨i,rfl,h⟩
   exact ⟨(q,i),List.mem_filter.2 ⟨List.mem_zipIdx_iff_getElem?.2 h,by simp⟩,rfl⟩
def inB (l:List Int)(q:Int)(a:Tri):Bool:=Qah l a.1 == q && Qah l a.2.1 == q
def Qsr (N M:Qai)(b:Int):Bool:=(N.ar.getD b.toNat (0,0,0)).2.2 != (M.ar.getD b.toNat (0,0,0)).2.2
def tabB (s t:Qby):Bool:=s.ins == t.ins && s.outs == t.outs && decide (s.costs=t.costs)
theorem Qnm {s t:Qby}:tabB s t=true↔s=t:=by
 unfold tabB
 constructor
 · intro h
   simp only [Bool.and_eq_true,beq_iff_eq,decide_eq_true_eq] at h;exact Qxl h.1.1 h.1.2 (fun i=>by rw [h.2])
 · rintro rfl
   simp
def vrtD (N M:Qai)(v:Int):Bool:=!(tabB (N.ts.getD (N.vs.getD v.toNat (0,0,0)).2.2.toNat ⟨0,0,[]⟩) (M.ts.getD (N.vs.getD v.toNat (0,0,0)).2.2.toNat ⟨0,0,[]⟩))
def netB (N M:Qai)(l:List Int)(q:Nat):Bool:=(Qcx (inB l q) N.ar).any (Qsr N M) || (mbI l q).any (vrtD N M)
theorem netB_iff {N M:Qai}(hN:Qav N)(hs:Qed N M){l:List Int}(hl:l.length=N.vs.length){q:Nat}:netB N M l q=true↔netT N M l q:=by
 unfold netB;rw [Bool.or_eq_true,List.any_eq_true,List.any_eq_true]
 constructor
 · rintro (⟨x,h1,h2⟩|⟨x,h1,h2⟩)
   · obtain ⟨b,y,rfl,hy,hp⟩:=Qhm.1 h1
     obtain ⟨z,hz,q1,q2⟩:=hs.kin.al.symm.get hy;unfold inB at hp;simp only [Bool.and_eq_true,beq_iff_eq] at hp;unfold Qsr at h2;rw [Yl,Ya,Ya,hy,hz] at h2;simp only [Option.getD_some,bne_iff_ne] at h2;exact .inl ⟨b,y,z,hy,hz,hp.1,hp.2,fun e=>h2 e.symm⟩
   · obtain ⟨v,rfl,hv⟩:=Qru.1 h1
     have hvl:v<N.vs.length:=by rw [←hl];exact (Zs hv).1
     obtain ⟨x,hx⟩:∃ x,N.vs[v]?=some x:=⟨_,Zg hvl⟩;refine .inr ⟨v,x,hx,Qbg hv,fun e=>?_⟩;unfold vrtD at h2;rw [Yl,Ya (l:=N.vs),hx] at h2;simp only [Option.getD_some] at h2;rw [Ya,Ya,e] at h2;rw [Qnm.2 rfl] at h2
     cases h2
 · rintro (⟨b,y,z,h1,h2,h3,h4,h5⟩|⟨v,x,h1,h2,h3⟩)
   · refine .inl ⟨(b:Int),Qhm.2 ⟨b,y,rfl,h1,?_⟩,?_⟩
     · unfold inB
       simp [h3,h4]
     · unfold Qsr
       rw [Yl,Ya,Ya,h1,h2];simp only [Option.getD_some,bne_iff_ne];exact fun e=>h5 e.symm
   · have hvl:=(Zs h1).1
     obtain ⟨c,hc⟩:∃ c,l[v]?=some c:=⟨_,Zg (by rw [hl];exact hvl)⟩;rw [Qbg hc] at h2;subst h2;refine .inr ⟨(v:Int),Qru.2 ⟨v,rfl,hc⟩,?_⟩;unfold vrtD;rw [Yl,Ya (l:=N.vs),h1];simp only [Option.getD_some];have ho:=hN.verts x (Zm h1);have t0:=ho.t0;have t1:=ho.t1;obtain ⟨t,ht⟩:∃ t,N.ts[x.2.2.toNat]?=some t:=⟨_,Zg (by omega)⟩;obtain ⟨t',ht',_⟩:=hs.tab _ t ht;rw [Ya,Ya,ht,ht'];simp only [Option.getD_some,Bool.not_eq_true']
     cases hb:tabB t t' with
     | false=>rfl
     | true =>
      rw [Qnm.1 hb] at ht;exact absurd (ht'.trans ht.symm) h3
theorem tch_net {N:Qai}(hN:Qav N) {ls:List (List Int)} (hP:Qbw N.vs.length ls) {ch:List Chn} (h:Qcj N ch):tb ls (Qdl N ls ch)=tb ls (fun i q=>netB N (Qdq N ch) (ls.getD i []) q):=by
 refine Qdc (fun i l hl q _=>?_);unfold Qdl;rw [Qes hl];exact bool_iff ((Qzq hN h).trans (netB_iff hN (Qdj h) (hP.lvl l (Zm hl)).len).symm)
/-! other entries -/
set_option maxHeartbeats 400000 in
theorem Qmx (A B:Option Addr)(n m c d:Nat)(l k0:List Bool)(w:World)(h:RdB w A n l)(g:RdB w B m k0)(hn:n≤1000000000)(he:l=k0) :
 Calls prog 45 #[.slice A n c,.slice B m d] w fun e w'=>e=.returned (.bool true)∧∃ q,w'=w.drewN q:=by
 subst he;obtain rfl:n=m:=by rw [←h.1,←g.1]
 go_enter func45,ntmps45
 go_wp2
 go_loopw [5] (fun i W=>∃ k:Nat,k≤n∧i=.int .i64 k∧∃ q,W=w.drewN q) (fun i _=>n-(intOf i).toNat)
 case atStart=>exact ⟨0,Nat.zero_le _,rfl,0,rfl⟩
 case round =>
  obtain ⟨k,hk,rfl,q,rfl⟩:=hrel
  by_cases hlt:k<n
  · obtain ⟨b,o,x,rfl,hx,hc⟩:=h.at_ hlt
    obtain ⟨b',o',y,rfl,hy,hd⟩:=g.at_ hlt;obtain rfl:x=y:=by rw [hx] at hy;exact Yv hy
    have i1:(0:Int)≤(k:Int):=by omega
    have i2:(k:Int)<(n:Int):=by omega
    clear hx hy
    cases x
    all_goals
     go_wp2
     go_quiet (fail)
     go_wp2
     go_roundw
     case rel=>exact ⟨k+1,by omega,by go_num,q+nq,by simp⟩
     case measure=>simp [intOf];omega
  · go_wp2
    go_ret
    exact ⟨rfl,_,rfl⟩
theorem Qfv (Q:Option Addr)(L cq i:Nat)(w:World)(hi:i<L) :
 Calls prog 103 #[.agg #[.slice Q L cq],.int .i64 ((i:Int)+1)] w fun r w'=>r=.returned (.bool true)∧Below w.heap.size w w':=by
 have i1:(1:Int)≤(i:Int)+1:=by omega
 have i2:(i:Int)+1≤(L:Int):=by omega
 go_enter func103,ntmps103
 go_wp2
 go_ret
 exact ⟨Qbe (by first|(simp;done)|(simp;omega)),Qaf⟩
set_option maxHeartbeats 2000000 in
theorem Qre (A B C Q:Option Addr)(n m k c d e L cq li:Nat)(N:Qai) (ls:List (List Int)) (l:List Int) (w:World) (h:Qbc w A B C n m k N) (hok:Qav N) (hq:RdT w Q L ls) (hl:ls[li]?=some l) (hll:l.length=N.vs.length) (hL:L≤1000000) :
 Calls prog 77 #[.agg #[.slice A n c,.slice B m d,.slice C k e],.agg #[.slice Q L cq],.int .i64 ((li:Int)+1)] w fun r w'=>∃ A' n' c',r=.returned (.slice A' n' c')∧RdI w' A' n' (Qat N.ar l)∧(∀ b,Qaa A'=some b→w.heap.size≤b)∧Below w.heap.size w w':=by
 have HH:=Zh h;have HM:=Zh h.2.1.1;have hm:m≤16384:=by rw [←h.2.1.1];exact hok.la
 have hliL:li<L:=by rw [←hq.1];exact (Zs hl).1
 obtain ⟨qb,qo,LA,ln,lc,l',rfl,hl',q1,q2,q3,q4⟩:=hq.at_ hliL;rw [hl] at hl'
 cases hl'
 have hln:ln=N.vs.length:=by rw [←q2.1];exact hll
 have i5:(li:Int)+1-1=(li:Int):=by omega
 have i6:(li:Int)<(L:Int):=by omega
 have i7:(0:Int)≤(li:Int):=by omega
 have wl:IntKind.i64.wrap (li:Int)=(li:Int):=IntWalk.i64_in _ (by omega);have HQ:=Zh q2;have HQ1:=Zh q1;have HLN:=Zh hln;have hlv:=hok.lv;have HAR:=Zh hok.arcs;clear h hq hl q1 q2 q3 q4 hll hln hok
 go_enter func77,ntmps77
 go_wp2_with fail
 (refine Qag ?_;intro w1 hw1)
 have hb1:Below w.heap.size w w1:=by rw [hw1];exact Qaf
 have hX:Blk w1 w.heap.size 26 #[.slice A n c,.slice B m d,.slice C k e]:=by
  rw [hw1];refine Blk.alloc ?_ _;exact Blk.new _ _ _
 have hY:Blk w1 (w.heap.size+1) 29 #[.slice (some ⟨qb,qo,none⟩) L cq]:=by
  rw [hw1];refine Blk.new' _ _ _ ?_;simp
 clear hw1
 go_loopw [7,8] (fun z q V=>∃ (i:Nat) (A':Option Addr) (c':Nat),i≤m∧q=.int .i64 i∧z=.slice A' (Qcx (Qcd l) (N.ar.take i)).length c'∧Own V w1.heap.size 3 1 A' (Qcx (Qcd l) (N.ar.take i)).length c' (Qad (Qcx (Qcd l) (N.ar.take i)))∧Below w1.heap.size w1 V) (fun _ q _=>m-(intOf q).toNat)
 case atStart=>exact ⟨0,none,0,Nat.zero_le _,rfl,rfl,Own.nil _ _ _ _,Zr _ _⟩
 case round =>
  obtain ⟨i,A',c',hi,rfl,rfl,hown,hbl⟩:=hrel;have hXr:=hX.below hbl hX.lt;have hYr:=hY.below hbl hY.lt;have x1:=hXr.cell 1;have xl:=hXr.lt;have y0:=hYr.cell 0;have yl:=hYr.lt;simp only [Yo,Yn,List.getElem?_cons_succ] at x1 y0;have hbd:(Qcx (Qcd l) (N.ar.take i)).length≤i:=Yx (Qfi _ _) (by rw [Yw];omega);have HOW:=Zh hown;obtain ⟨no,hno⟩:∃ no,no=(Qcx (Qcd l) (N.ar.take i)).length:=⟨_,rfl⟩;rw [←hno] at hbd ⊢;have HNO:=Zh hno;clear hown hno
  by_cases hlt:i<m
  rotate_left
  · obtain rfl:i=m:=by omega
    have i1:¬((i:Int)<(i:Int)):=by omega
    go_wp2_with fail
    go_ret
    refine ⟨A',no,⟨c',rfl⟩,?_,fun b hb=>by have:=(HOW.out.lt b hb).1;have:=hb1.size;omega,Zb hb1 hbl⟩;have:=HOW.out.rds.rdI;rw [Ye (by rw [HM.out];exact Zn _)] at this;rw [HNO.out,Ye (by rw [HM.out];exact Zn _)];exact this
  · have i1:(i:Int)<(m:Int):=by omega
    have i2:(0:Int)≤(i:Int):=by omega
    go_wp2_with fail
    with_reducible refine (Qfv _ L cq li wr hliL).mono ?_
    rintro r w2 ⟨rfl,hb2⟩;have hbl2:=Zb hbl hb2;have HOW2:=Zh (HOW.out.below hb2);have hbw:=Zb hb1 hbl2;clear x1 xl y0 yl hXr hYr hb2 hbl HOW;obtain ⟨y,hy⟩:∃ y,N.ar[i]?=some y:=⟨_,Zg (by rw [HM.out];exact hlt)⟩;obtain ⟨b,o,rfl,c0,c1,c2⟩:=(HH.out.below hbw).2.1.2 i y hy;have ho:=HAR.out y (Zm hy);have f0:=ho.f0;have f1:=ho.f1;have g0:=ho.g0;have g1:=ho.g1;obtain ⟨u,hu⟩:∃ u:Nat,y.1=(u:Int):=⟨y.1.toNat,by omega⟩;obtain ⟨v,hv⟩:∃ v:Nat,y.2.1=(v:Int):=⟨y.2.1.toNat,by omega⟩;rw [hu] at c0;rw [hv] at c1;have hun:u<ln:=by rw [HLN.out];omega
    have hvn:v<ln:=by rw [HLN.out];omega
    obtain ⟨b1,o1,z1,rfl,hz1,d1⟩:=(HQ.out.below hbw).at_ hun;obtain ⟨b1',o1',z2,e',hz2,d2⟩:=(HQ.out.below hbw).at_ hvn
    cases e'
    have hqc:=Zc hbw (Zn _) HQ1.out;have hXr:=hX.below hbl2 hX.lt;have hYr:=hY.below hbl2 hY.lt
    have hcr:Qcd l y=(z1 != z2):=by
     unfold Qcd;rw [hu,hv,Qbg hz1,Qbg hz2]
    have j1:(u:Int)<(ln:Int):=by omega
    have j2:(v:Int)<(ln:Int):=by omega
    have j3:(0:Int)≤(u:Int):=by omega
    have j4:(0:Int)≤(v:Int):=by omega
    have HY:=Zh hy;have HCR:=Zh hcr
    have HSX:=Zh (show ∀ V,Below w2.heap.size w2 V→V.cell? ⟨w.heap.size,1,none⟩=some (.slice (some ⟨b,o,none⟩) m d)∧V.cell? ⟨w.heap.size+1,0,none⟩=some (.slice (some ⟨qb,qo,none⟩) L cq)∧V.cell? ⟨qb,qo+li,none⟩=some (.slice (some ⟨b1,o1,none⟩) ln lc)∧V.cell? ⟨b,o+i*3,none⟩=some (.int .i64 u)∧V.cell? ⟨b,o+i*3+1,none⟩=some (.int .i64 v)∧V.cell? ⟨b1,o1+u,none⟩=some (.int .i64 z1)∧V.cell? ⟨b1,o1+v,none⟩=some (.int .i64 z2) from
     fun V hV=>⟨by rw [(hXr.below hV hXr.lt).cell];rfl,by rw [(hYr.below hV hYr.lt).cell];rfl,Zc hV (Zn _) hqc,Zc hV (Zn _) c0,Zc hV (Zn _) c1,Zc hV (Zn _) d1,Zc hV (Zn _) d2⟩)
    clear hy hcr c0 c1 c2 d1 d2 hqc hXr hYr hu hv hz1 hz2 f0 f1 g0 g1 ho
    go_wp2_with fail
    refine wp_region_held_drew (S:=fun V=>Below w2.heap.size w2 V) (by kernel_rfl) (Zr _ _).drew (fun _=>?_);refine tz 0 21 ?_;refine tz 1 22 ?_;refine tz 2 23 ?_;refine tz 3 24 ?_;refine tz 4 25 ?_;refine tz 5 26 ?_;refine tz 6 27 ?_;refine tz 7 28 ?_;refine tz 8 29 ?_;refine tz 9 30 ?_;refine tz 10 31 ?_;refine tz 11 32 ?_;refine tz 12 33 ?_;refine tz 13 34 ?_;refine tz 14 35 ?_;refine tz 15 36 ?_;refine tz 16 37 ?_;refine tz 17 38 ?_;refine tz 18 39 ?_;refine tz 19 40 ?_;refine tz 20 41 ?_;refine tz 21 42 ?_;refine tz 22 43 ?_;refine tz 23 44 ?_;refine tz 24 45 ?_;refine tz 25 46 ?_;refine tz 26 47 ?_;refine tz 27 48 ?_;refine tz 28 49 ?_;refine Zd ?_;clear HSX
    by_cases hv:z1=z2
    · have e1:(z1 != z2)=false:=by simpa using hv
      have HN1:=Zh (show Qcx (Qcd l) (N.ar.take (i+1))=Qcx (Qcd l) (N.ar.take i) by rw [Qev HY.out,HCR.out,e1];simp)
      have HE:=Zh hv;clear hv
      go_wp2_with fail
      go_roundw
      case rel=>exact ⟨i+1,A',c',by omega,by go_num,by rw [HN1.out,HNO.out],by rw [HN1.out];exact HOW2.out.drew,hbl2.drew⟩
      case measure=>simp [intOf];omega
    · have e1:(z1 != z2)=true:=by simpa using hv
      obtain ⟨W1,hW1⟩:∃ W1,W1=w2.drew:=⟨_,rfl⟩;have hbW1:Below w1.heap.size w1 W1:=by rw [hW1];exact hbl2.drew
      have hown2:Own W1 w1.heap.size 3 1 A' no c' (Qad (Qcx (Qcd l) (N.ar.take i))):=by
       rw [hW1];have:=HOW2.out;rw [←HNO.out] at this;exact this.drew
      rw [←hW1];obtain ⟨W2,hW2⟩:∃ W2,W2=W1.alloc (.cells #[.int .i64 i] 3):=⟨_,rfl⟩;have hown3:Own W2 w1.heap.size 3 1 A' no c' (Qad (Qcx (Qcd l) (N.ar.take i))):=by rw [hW2];exact hown2.alloc _
      have hrd:Rds W2 1 (some ⟨W1.heap.size,0,none⟩) 1 (Qad [(i:Int)]):=by rw [hW2];exact (Blk.new W1 3 #[.int .i64 i]).rds rfl
      have hba:Below w1.heap.size w1 W2:=by rw [hW2];exact Below.alloc hbW1 hbW1.size _
      have hsz:w1.heap.size≤W2.heap.size:=hba.size;have HW2:=Zh hW2;have HE:=Zh hv;clear hW2 hown2 hv hW1 hbW1
      go_wp2_with (at_builtin;rw [←HW2.out];with_reducible refine Qas rfl (.tmp 50) (.tmp 52) 93 rfl 3 _ 1 8 Qbk underlying93 rfl (by omega) rfl rfl hown3 hrd (Qam _) (by omega) (by omega) hsz ?_)
      intro A3 c3 w8 ho8 hg8 _;have hb8:Below w1.heap.size w1 w8:=Zo hba hg8 hown3 hsz;have HN0:=Zh (show Qcx (Qcd l) (N.ar.take (i+1))=Qcx (Qcd l) (N.ar.take i) ++[(i:Int)] by rw [Qev HY.out,HCR.out,e1,if_pos rfl])
      have HO8:=Zh (show Own w8 w1.heap.size 3 1 A3 (no+1) c3 (Qad (Qcx (Qcd l) (N.ar.take (i+1)))) by rw [HN0.out,Qbi];exact ho8)
      have HN1:=Zh (show (Qcx (Qcd l) (N.ar.take (i+1))).length=no+1 by rw [HN0.out,Yp,←HNO.out];rfl)
      clear hown3 hrd hba hsz ho8 hg8
      go_wp2_with fail
      go_roundw
      case rel=>exact ⟨i+1,A3,c3,by omega,by go_num,by rw [HN1.out],by rw [HN1.out];exact HO8.out,hb8⟩
      case measure=>simp [intOf];omega
set_option maxHeartbeats 400000 in
theorem Qtd (A:Option Addr)(n c:Nat)(l:List Int)(w:World)(h:RdI w A n l)(hn:n≤1000000)(hb:∀ x∈l,0≤x∧x≤1000000) :
 Calls prog 104 #[.slice A n c] w fun e w'=>e=.returned (.int .i64 (Qaj l))∧w=w':=by
 have HR:=Zh h;have HL:=Zh h.1;have HB:=Zh hb;clear h hb
 go_enter func104,ntmps104
 go_wp2_with fail
 go_loop [3,4] (fun m q=>∃ k:Nat,k≤n∧q=.int .i64 k∧m=.int .i64 (Qaj (l.take k))) (fun _ q=>n-(intOf q).toNat)
 case atStart=>exact ⟨0,Nat.zero_le _,rfl,rfl⟩
 case round =>
  obtain ⟨k,hk,rfl,rfl⟩:=hrel
  by_cases hlt:k<n
  · obtain ⟨b,o,x,rfl,hx,hc⟩:=HR.out.at_ hlt
    have hxb:=HB.out x (Zm hx);have HNX:=Zh (Qgl hx);have i1:(0:Int)≤(k:Int):=by omega
    have i2:(k:Int)<(n:Int):=by omega
    clear hx;generalize Qaj (l.take k)=m at *;have HM:=Zh (show (if m<x+1 then x+1 else m)=max m (x+1) by split <;> omega)
    go_wp2_with fail
    go_round
    case rel=>exact ⟨k+1,by omega,by go_num,by rw [HNX.out,←HM.out]⟩
    case measure=>simp [intOf];omega
  · obtain rfl:n=k:=by omega
    have HE:=Zh (show Qaj (l.take n)=Qaj l by rw [Ye (by rw [HL.out];exact Zn _)])
    go_wp2
    go_ret
    exact ⟨Qbu HE.out,rfl⟩
def Qfk (ls:List (List Int)) (i:Nat):Option (List Int):=if i=0 then none else ls[i-1]?
theorem Qqz (ls:List (List Int)):Qfk ls 0=none:=rfl
theorem Qgx (ls:List (List Int)) (j:Nat):Qfk ls (j+1)=ls[j]?:=rfl
theorem Qrw {n:Nat} {p:Option (List Int)} {l:List Int} (h:l.length≠n):Qer n p l=1:=by unfold Qer;rw [if_pos h]
theorem Qio {n:Nat} {p:Option (List Int)} {l:List Int} (h:l.length=n) (hn:¬(Qfj n l∧∀ q,p=some q→Qds q l)):Qer n p l=10:=by
 unfold Qer;rw [if_neg (fun e=>e h),if_neg hn]
theorem Qml {n:Nat} {p:Option (List Int)} {l:List Int} (h:Qfj n l) (hn:∀ q,p=some q→Qds q l):Qer n p l=0:=by
 unfold Qer;rw [if_neg (fun e=>e h.len),if_pos ⟨h,hn⟩]
set_option maxHeartbeats 2000000 in
set_option maxRecDepth 20000 in
theorem Qlj (Q:Option Addr)(n L cq i:Nat) (ls:List (List Int)) (l:List Int) (w:World) (h:RdT w Q L ls) (hl:ls[i]?=some l) (hn:n≤4096) (hL:L≤1000000) (hprev:∀ j p,i=j+1→ls[j]?=some p→p.length=n) :
 Calls prog 109 #[.int .i64 n,.agg #[.slice Q L cq],.int .i64 ((i:Int)+1),.slice none 0 0] w fun e w'=>e=.returned (.int .i64 (Qer n (Qfk ls i) l))∧Below w.heap.size w w':=by
 have hi:i<L:=by rw [←h.1];exact (Zs hl).1
 have HT:=Zh h;obtain ⟨b,o,A,m,c,l',rfl,hl',hc,hr,q1,q2⟩:=h.at_ hi;rw [hl] at hl'
 cases hl'
 have HR:=Zh hr;have HLEN:=Zh hr.1;have HLL:=Zh hl;have HPV:=Zh hprev;have hca:=fun ob=>Zc (show Below w.heap.size w (w.alloc ob) from Qaf) (Zn _) hc
 have i1:(0:Int)≤(i:Int):=by omega
 have i2:(i:Int)<(L:Int):=by omega
 have i5:(i:Int)+1-1=(i:Int):=by omega
 have hmk:=Qdx n (by omega);clear h hr hl hprev q1
 by_cases hmn:m=n
 rotate_left
 · have e1:((m:Int) != (n:Int))=true:=by simp;omega
   have e2:((m:Int) == (n:Int))=false:=by simp;omega
   have HC:=Zh (Qrw (n:=n) (p:=Qfk ls i) (l:=l) (by rw [HLEN.out];exact hmn))
   go_enter func109,ntmps109
   go_wp2_with fail
   go_ret
   exact ⟨Qbu HC.out.symm,Qaf⟩
 subst hmn
 go_enter func109,ntmps109
 go_wp2_with fail
 (refine Qag ?_;intro w1 hw1)
 have hb1:Below w.heap.size w w1:=by rw [hw1];exact Qaf
 have hQ:Blk w1 w.heap.size 29 #[.slice (some ⟨b,o,none⟩) L cq]:=by rw [hw1];exact Qaz
 have HR1:=Zh (HR.out.below hb1);clear hw1 hca
 go_loop [10] (fun q=>∃ k:Nat,k≤m∧q=.int .i64 k∧∀ j x,j<k→l[j]?=some x→0≤x∧x<m) (fun q=>m-(intOf q).toNat)
 case atStart=>exact ⟨0,Nat.zero_le _,rfl,fun _ _ h=>absurd h (Nat.not_lt_zero _)⟩
 case round =>
  obtain ⟨k,hk,rfl,hall⟩:=hrel;have HA:=Zh hall;clear hall
  by_cases hlt:k<m
  · obtain ⟨b',o',x,rfl,hx,hcx⟩:=HR1.out.at_ hlt
    have j1:(0:Int)≤(k:Int):=by omega
    have j2:(k:Int)<(m:Int):=by omega
    have HX:=Zh hx;clear hx
    by_cases hok:0≤x∧x<m
    · have g0:=hok.1
      have g1:=hok.2;have HOK:=Zh hok;clear hok
      go_wp2_with fail
      go_round
      case rel=>exact ⟨k+1,by omega,by go_num,fun j y hj hy=>by
       by_cases e:j=k
       · subst e
         rw [HX.out] at hy
         cases hy
         exact HOK.out
       · exact HA.out j y (by omega) hy⟩
      case measure=>simp [intOf];omega
    · have HC:=Zh (Qio (n:=m) (p:=Qfk ls i) (l:=l) HLEN.out (fun hh=>hok ⟨hh.1.lo x (Zm HX.out),hh.1.hi x (Zm HX.out)⟩))
      by_cases hx0:x<0
      · clear hok
        go_wp2_with fail
        go_ret
        exact ⟨Qbu HC.out.symm,hb1⟩
      · have hx1:¬x<m:=by omega
        have hx2:x ≥ m:=by omega
        clear hok
        go_wp2_with fail
        go_ret
        exact ⟨Qbu HC.out.symm,hb1⟩
  · obtain rfl:m=k:=by omega
    have HN:=Zh (show ∀ x∈l,0≤x∧x<m from fun x hx=>by
     obtain ⟨j,hj⟩:=Yr hx;exact HA.out j x (by rw [←HLEN.out];exact (Zs hj).1) hj)
    clear HA
    go_wp2_with fail
    (refine Qag ?_;intro w2 hw2)
    have hb2:Below w1.heap.size w1 w2:=by rw [hw2];exact Qaf
    have hQ2:=hQ.below hb2 hQ.lt;have hB2:Blk w2 w1.heap.size 3 (Qcv (Qqn (l.take 0) m)):=by rw [hw2,List.take_zero,Qpf];exact Blk.new _ _ _
    have hbw2:=Zb hb1 hb2;have hz12:=hb1.size;clear hw2 hmk
    go_loopw [12] (fun q W=>Below w1.heap.size w1 W∧∃ k:Nat,k≤m∧q=.int .i64 k∧Blk W w1.heap.size 3 (Qcv (Qqn (l.take k) m))) (fun q _=>m-(intOf q).toNat)
    case atStart=>exact ⟨hb2,0,Nat.zero_le _,rfl,hB2⟩
    case round =>
     clear hb2 hB2 hQ2 hbw2;obtain ⟨hbl,k,hk,rfl,hB⟩:=hrel
     by_cases hlt2:k<m
     · obtain ⟨b',o',x,rfl,hx,hcx⟩:=HR1.out.at_ hlt2
       have hxx:=HN.out x (Zm hx);obtain ⟨v,rfl⟩:∃ v:Nat,x=v:=⟨x.toNat,by omega⟩;have hv:v<m:=by omega
       have hcx2:=Zc hbl (Zn _) hcx;have c1:=hB.cellI (Qek (l:=l.take k) hv);have c1f:=hB.frozen v;have d1:=Qyk l k (v:Int);have HBN:=Zh (hB.setI (Qpk hx hv));have j1:(0:Int)≤(k:Int):=by omega
       have j2:(k:Int)<(m:Int):=by omega
       have j3:(0:Int)≤(v:Int):=by omega
       have j4:(v:Int)<(m:Int):=by omega
       clear hx hcx hB hxx;generalize (l.take k).countP (fun x=>x == (v:Int))=p at *;have hbn:Below w1.heap.size w1 (wr.setCell ⟨w1.heap.size,v,none⟩ (.int .i64 ((p:Int)+1))):=hbl.setCell (Zn _) _
       go_wp2_with fail
       go_roundw
       case rel=>exact ⟨hbn,k+1,by omega,by go_num,HBN.out⟩
       case measure=>simp [intOf];omega
     · obtain rfl:m=k:=by omega
       rw [Ye (by rw [HLEN.out];exact Zn _)] at hB;have m0:=Qbt l;have m1:=Qbq (l:=l) (n:=(m:Int)) (fun x hx=>(HN.out x hx).2) (by omega);obtain ⟨w3,hw3⟩:∃ w3,w3=wr:=⟨_,rfl⟩;subst hw3;have hbw3:=Zb hb1 hbl;have HMO:=Zh (Qtd A m c l w3 (HR.out.below hbw3) (by omega) (fun x hx=>by have:=HN.out x hx;omega));obtain ⟨M,hM⟩:∃ M:Nat,Qaj l=M:=⟨(Qaj l).toNat,by omega⟩;rw [hM] at HMO m0 m1;have HMM:=Zh hM;clear hM
       go_wp2_with fail
       go_loop [13] (fun q=>∃ k:Nat,k≤M∧q=.int .i64 k∧∀ c:Nat,c<k→(c:Int)∈l) (fun q=>M-(intOf q).toNat)
       case atStart=>exact ⟨0,Nat.zero_le _,rfl,fun _ h=>absurd h (Nat.not_lt_zero _)⟩
       case round =>
        obtain ⟨k,hk,rfl,hall⟩:=hrel;have HA:=Zh hall;clear hall
        go_wp2_with fail
        with_reducible refine HMO.out.mono ?_
        rintro e w' ⟨rfl,rfl⟩
        by_cases hlt3:k<M
        · have hkm:k<m:=by omega
          have c1:=hB.cellI (Qek (l:=l) hkm);have j1:(0:Int)≤(k:Int):=by omega
          have j2:(k:Int)<(m:Int):=by omega
          have HCT:=Zh (show 0<l.countP (fun x=>x == (k:Int))↔(k:Int)∈l from by rw [List.countP_pos_iff];simp)
          generalize l.countP (fun x=>x == (k:Int))=p at *
          by_cases hp:p=0
          · subst hp
            have HC:=Zh (Qio (n:=m) (p:=Qfk ls i) (l:=l) HLEN.out (fun hh=>by
             have:=HCT.out.2 (hh.1.all k (by rw [HMM.out];omega));omega))
            go_wp2_with fail
            go_ret
            exact ⟨Qbu HC.out.symm,hbw3⟩
          · have e1:((p:Int) == 0)=false:=by simp;exact hp
            have HP:=Zh (HCT.out.1 (by omega));clear hp
            go_wp2_with fail
            go_round
            case rel=>exact ⟨k+1,by omega,by go_num,fun c hc=>by
             by_cases e:c=k
             · subst e;exact HP.out
             · exact HA.out c (by omega)⟩
            case measure=>simp [intOf];omega
        · obtain rfl:M=k:=by omega
          have HLV:=Zh (show Qfj m l from ⟨HLEN.out,fun x hx=>(HN.out x hx).1,fun x hx=>(HN.out x hx).2,fun c hc=>HA.out c (by rw [HMM.out] at hc;omega)⟩)
          have hQ3:=hQ.below hbl hQ.lt;clear HA HN hB;have q0:=hQ3.cell 0;simp only [Yo,Yn] at q0;have HRw:=Zh (HR.out.below hbw3)
          by_cases hi0:i=0
          · have HC:=Zh (Qml (n:=m) (p:=Qfk ls i) HLV.out (fun q hq=>by rw [hi0,Qqz] at hq;cases hq))
            have e1:¬((i:Int)+1 > 1):=by omega
            have e2:¬(0<i):=by omega
            have e3:¬((i:Int) > 0):=by omega
            clear hi0;have hb99:Below w3.heap.size w3 w3:=Zr _ _
            by_cases hm0:0<m
            · skip
              go_wp2_with fail
              go_loop [14] (fun q=>q=.int .i64 0) (fun _=>0)
              case atStart=>rfl
              case round =>
               subst hrel
               go_wp2_with fail
               go_loop [16] (fun q=>q=.int .i64 0) (fun _=>0)
               case atStart=>rfl
               case round =>
                subst hrel
                go_wp2_with fail
                all_goals
                 go_ret
                 exact ⟨Qbu HC.out.symm,Zb hbw3 hb99⟩
            · skip
              go_wp2_with fail
              go_loop [14] (fun q=>q=.int .i64 0) (fun _=>0)
              case atStart=>rfl
              case round =>
               subst hrel
               go_wp2_with fail
               go_loop [16] (fun q=>q=.int .i64 0) (fun _=>0)
               case atStart=>rfl
               case round =>
                subst hrel
                go_wp2_with fail
                all_goals
                 go_ret
                 exact ⟨Qbu HC.out.symm,Zb hbw3 hb99⟩
          · obtain ⟨j,rfl⟩:∃ j,i=j+1:=⟨i-1,by omega⟩
            obtain ⟨bp,op,A',m',c',p,e,hp,hcp,hrp,q1',q2'⟩:=HT.out.at_ (show j<L by omega)
            cases e
            obtain rfl:m=m':=by rw [←hrp.1];exact (HPV.out j p rfl hp).symm
            have HPP:=Zh hp;have HRp:=Zh (hrp.below hbw3);have HCP:=Zh (Zc hbw3 (Zn _) hcp);have i3:((j:Int)+1+1)-2=(j:Int):=by omega
            have i4:(0:Int)≤(j:Int):=by omega
            have i6:(j:Int)<(L:Int):=by omega
            have i7:(j:Int)+1+1 > 1:=by omega
            have HLp:=Zh hrp.1;clear hrp hp hcp q1' hi0
            go_wp2_with fail
            go_loopw [14] (fun q W=>Below w3.heap.size w3 W∧∃ k:Nat,k≤m∧q=.int .i64 k∧∀ (a v:Nat) (x y u z:Int),a<k→p[a]?=some x→p[v]?=some y→l[a]?=some u→l[v]?=some z→x≤y→u≤z) (fun q _=>m-(intOf q).toNat)
            case atStart=>exact ⟨Zr _ _,0,Nat.zero_le _,rfl,fun _ _ _ _ _ _ h=>absurd h (Nat.not_lt_zero _)⟩
            case round =>
             obtain ⟨hbr,k,hk,rfl,hall⟩:=hrel;have HA:=Zh hall;clear hall
             by_cases hlt4:k<m
             · obtain ⟨pb,po,x,rfl,hx,hcx⟩:=HRp.out.at_ hlt4
               obtain ⟨lb,lo,u,rfl,hu,hcu⟩:=HRw.out.at_ hlt4;have k1:(0:Int)≤(k:Int):=by omega
               have k2:(k:Int)<(m:Int):=by omega
               have HX:=Zh hx;have HU:=Zh hu;clear hx hu;obtain ⟨wo,hwo⟩:∃ wo,wo=wr:=⟨_,rfl⟩;subst hwo
               go_wp2_with fail
               go_loopw [15] (fun q W=>Below w3.heap.size w3 W∧∃ v:Nat,v≤m∧q=.int .i64 v∧∀ (v':Nat) (y z:Int),v'<v→p[v']?=some y→l[v']?=some z→x≤y→u≤z) (fun q _=>m-(intOf q).toNat)
               case atStart=>exact ⟨hbr,0,Nat.zero_le _,rfl,fun _ _ _ h=>absurd h (Nat.not_lt_zero _)⟩
               case round =>
                clear hbr;obtain ⟨hbr,v,hv,rfl,hall⟩:=hrel;have HV:=Zh hall;clear hall
                by_cases hlt5:v<m
                · obtain ⟨pb',po',y,e,hy,hcy⟩:=HRp.out.at_ hlt5
                  cases e
                  obtain ⟨lb',lo',z,e,hz,hcz⟩:=HRw.out.at_ hlt5
                  cases e
                  have HY:=Zh hy;have HZ:=Zh hz;have q0':=Zc hbr (Zn _) q0;have hcp':=Zc hbr (Zn _) HCP.out;have hcx':=Zc hbr (Zn _) hcx;have hcu':=Zc hbr (Zn _) hcu;have hcy':=Zc hbr (Zn _) hcy;have hcz':=Zc hbr (Zn _) hcz;have k3:(0:Int)≤(v:Int):=by omega
                  have k4:(v:Int)<(m:Int):=by omega
                  clear hy hz hcy hcz
                  by_cases hxy:x≤y
                  · by_cases huz:u > z
                    · have HC:=Zh (Qio (n:=m) (p:=Qfk ls (j+1)) (l:=l) HLEN.out (fun hh=>by
                       have:=hh.2 p (by rw [Qgx];exact HPP.out) k v x y u z HX.out HY.out HU.out HZ.out hxy;omega))
                      have e1:decide (x≤y)=true:=by simpa using hxy
                      go_wp2_with fail
                      go_quiet (fail)
                      go_wp2_with fail
                      go_ret
                      exact ⟨Qbu HC.out.symm,Zb hbw3 (Qaw hbr _)⟩
                    · have e1:decide (x≤y)=true:=by simpa using hxy
                      have HO:=Zh huz
                      go_wp2_with fail
                      go_quiet (fail)
                      go_wp2_with fail
                      go_roundw
                      case rel=>exact ⟨Qaw hbr _,v+1,by omega,by go_num,fun v' y' z' hv' h1 h2 h3=>by
                       by_cases e:v'=v
                       · subst e
                         rw [HZ.out] at h2
                         cases h2
                         have:=HO.out;omega
                       · exact HV.out v' y' z' (by omega) h1 h2 h3⟩
                      case measure=>simp [intOf];omega
                  · have e1:decide (x≤y)=false:=by simpa using hxy
                    have HO:=Zh hxy
                    go_wp2_with fail
                    go_quiet (fail)
                    go_wp2_with fail
                    go_roundw
                    case rel=>exact ⟨Qaw hbr _,v+1,by omega,by go_num,fun v' y' z' hv' h1 h2 h3=>by
                     by_cases e:v'=v
                     · subst e
                       rw [HY.out] at h1
                       cases h1
                       have:=HO.out;omega
                     · exact HV.out v' y' z' (by omega) h1 h2 h3⟩
                    case measure=>simp [intOf];omega
                · obtain rfl:m=v:=by omega
                  go_wp2_with fail
                  go_roundw
                  case rel=>exact ⟨hbr,k+1,by omega,by go_num,fun a v x' y u' z ha h1 h2 h3 h4 h5=>by
                   by_cases e:a=k
                   · subst e
                     rw [HX.out] at h1;rw [HU.out] at h3
                     cases h1
                     cases h3
                     exact HV.out v y z (by rw [←HLp.out];exact (Zs h2).1) h2 h4 h5
                   · exact HA.out a v x' y u' z (by omega) h1 h2 h3 h4 h5⟩
                  case measure=>simp [intOf];omega
             · obtain rfl:m=k:=by omega
               have HC:=Zh (Qml (n:=m) (p:=Qfk ls (j+1)) HLV.out (fun q hq=>by
                rw [Qgx,HPP.out] at hq
                cases hq
                intro a v x y u z h1 h2 h3 h4 h5;exact HA.out a v x y u z (by rw [←HLp.out];exact (Zs h1).1) h1 h2 h3 h4 h5))
               clear HA
               go_wp2_with fail
               have hb99:=hbr
               go_loop [16] (fun q=>q=.int .i64 0) (fun _=>0)
               case atStart=>rfl
               case round =>
                subst hrel
                go_wp2_with fail
                all_goals
                 go_ret
                 exact ⟨Qbu HC.out.symm,Zb hbw3 hb99⟩
set_option maxHeartbeats 1000000 in
theorem Qjx (Q:Option Addr)(L cq i:Nat) (ls:List (List Int)) (l:List Int) (w:World) (h:RdT w Q L ls) (hl:ls[i]?=some l) (hL:L≤1000000) (hb:∀ x∈l,0≤x∧x≤1000000) (hn:l.length≤1000000) :
 Calls prog 61 #[.agg #[.slice Q L cq],.int .i64 ((i:Int)+1)] w fun e w'=>e=.returned (.int .i64 (Qaj l))∧Below w.heap.size w w':=by
 have hiL:i<L:=by rw [←h.1];exact (Zs hl).1
 obtain ⟨qb,qo,A1,n1,c1,l1,rfl,hl1,k0,k1,k2,k3⟩:=h.at_ hiL;rw [hl] at hl1
 cases hl1
 have hn1:n1≤1000000:=by rw [←k1.1];exact hn
 have HMO:=Zh (fun V (hV:Below w.heap.size w V)=>Qtd A1 n1 c1 l V (k1.below hV) hn1 hb);have HK0:=Zh (show ∀ V,Below w.heap.size w V→V.cell? ⟨qb,qo+i,none⟩=some (.slice A1 n1 c1) from fun V hV=>Zc hV (Zn _) k0)
 have i4:(i:Int)+1-1=(i:Int):=by omega
 have i2:(i:Int)<(L:Int):=by omega
 have i3:(0:Int)≤(i:Int):=by omega
 have wl:IntKind.i64.wrap (i:Int)=(i:Int):=IntWalk.i64_in _ (by omega);clear h hl hb hn k0 k1 k2 k3
 go_enter func61,ntmps61
 go_wp2_with fail
 (refine Qac ?_;intro w1 hw1)
 have hb1:Below w.heap.size w w1:=by rw [hw1];exact Qaf
 have hX1:Blk w1 w.heap.size 29 #[.slice (some ⟨qb,qo,none⟩) L cq]:=by rw [hw1];exact Blk.new _ _ _
 clear hw1;with_reducible refine (Qfv _ L cq i w1 hiL).mono ?_
 rintro r w2 ⟨rfl,hb2⟩;have hX2:=hX1.below hb2 hX1.lt;have hb2':=Zb hb1 hb2;have x0:w2.cell? ⟨w.heap.size,0,none⟩=some (.slice (some ⟨qb,qo,none⟩) L cq):=Zq hX2;have x2:=HK0.out w2 hb2';clear hb1 hb2 hX1 hX2
 go_wp2_with fail
 with_reducible refine (HMO.out w2 hb2').mono ?_
 rintro r w3 ⟨rfl,rfl⟩
 go_wp2_with fail
 go_ret
 exact ⟨rfl,hb2'⟩
theorem Qxn:(Tryz.prog.info? 95).map (fun i=>(i.zero,i.size,i.bytes))=some (some (.agg #[.slice none 0 0,.slice none 0 0]),2,48):=by kernel_rfl
theorem Qul:(Tryz.prog.info? 92).map (fun i=>(i.zero,i.size,i.bytes))=some (some (.slice none 0 0),1,24):=by kernel_rfl
theorem Qnf (k:Nat)(hk:k≤1000000)(W:World):(Instr.makeSlice 92 (.int .i64 (k:Int)) (.int .i64 (k:Int))).run prog W=.ok (.slice (some ⟨W.heap.size,0,none⟩) k k) (W.alloc (.cells (Qbd (.slice none 0 0) (k*2)) 95)):=by
 obtain ⟨i,hi,hz,hs,hbb⟩:=info_parts Qxn
 have hb':(i.bytes:Int)*(k:Int)≤281474976710656:=by
  rw [hbb];omega
 have hr:=run_make (P:=prog) W 92 95 i _ underlying92 hi hz .i64 .i64 k k (by omega) (by omega) hb' (by omega);simp only [Yl] at hr;rw [hs,show (Value.agg #[.slice none 0 0,.slice none 0 0]).cells=#[.slice none 0 0,.slice none 0 0] from rfl,Qwp] at hr
 exact hr
def GtL (W:World)(B:Nat)(A:Option Addr)(i c:Nat)(xs:List Value)(ar:List Tri) (ls:List (List Int)):Prop :=
 Own W B 92 1 A i c xs∧∀ (j:Nat) (l:List Int),j<i→ls[j]?=some l→∃ (A2:Option Addr) (c2:Nat),xs[j]?=some (.slice A2 (Qaj l).toNat c2)∧RdC (msk W (fun b=>B≤b∧b<W.heap.size∧Qaa A≠some b)) A2 (Qaj l).toNat (gateRow ar l)∧(Qaj l).toNat≤c2∧c2≤9223372036854775807
section
variable {W W':World} {B i c:Nat} {A:Option Addr} {xs:List Value} {ar:List Tri} {ls:List (List Int)}
theorem GtL.nil (W:World)(B:Nat)(ar:List Tri) (ls:List (List Int)):GtL W B none 0 0 [] ar ls:=⟨Own.nil _ _ _ _,fun _ _ h=>absurd h (Nat.not_lt_zero _)⟩
theorem GtL.below (h:GtL W B A i c xs ar ls)(hb:Below W.heap.size W W'):GtL W' B A i c xs ar ls :=
 ⟨h.1.below hb,fun j l hj hl=>by
  obtain ⟨A2,c2,h1,h2,h3⟩:=h.2 j l hj hl;exact ⟨A2,c2,h1,h2.le (Le.trans (Qax.msk (Qax.below hb)) (Qay (fun b hb'=>⟨hb'.1,Yu hb'.2.1 hb.size,hb'.2.2⟩))),h3⟩⟩
theorem GtL.push {l:List Int}{R:Option Addr}{c' cr:Nat}{A':Option Addr}(h:GtL W B A i c xs ar ls) (hl:ls[i]?=some l)
 (hr:RdC (msk W (fun b=>B≤b∧b<W.heap.size∧Qaa A≠some b)) R (Qaj l).toNat (gateRow ar l)) (h1:(Qaj l).toNat≤cr) (h2:cr≤9223372036854775807)
 (ho:Own W' B 92 1 A' (i+1) c' (xs ++[.slice R (Qaj l).toNat cr])) (hg:W.grownBy W' (Qaa A)) (hat:Qaa A'=Qaa A∨Qaa A'=some W.heap.size):GtL W' B A' (i+1) c' (xs ++[.slice R (Qaj l).toNat cr]) ar ls:=by
 have hxl:xs.length=i:=by rw [h.1.1,Nat.mul_one]
 have hle:Le (msk W (fun b=>B≤b∧b<W.heap.size∧Qaa A≠some b)) (msk W' (fun b=>B≤b∧b<W'.heap.size∧Qaa A'≠some b)) :=
  Le.trans (Qax.msk (Qax.grown hg (fun b hb=>hb.2.2))) (Qay (fun b hb=>⟨hb.1,Yu hb.2.1 hg.size,fun e=>by
   rcases hat with e2|e2
   · exact hb.2.2 (e2▸e)
   · rw [e2] at e
     have:=Yv e;omega⟩))
 refine ⟨ho,fun j l' hj hl'=>?_⟩
 by_cases e:j=i
 · subst e
   rw [hl] at hl'
   cases hl'
   exact ⟨R,cr,by rw [←hxl,Yb (Zn _),Yy];rfl,hr.le hle,h1,h2⟩
 · obtain ⟨A2,c2,k1,k2,k3⟩:=h.2 j l' (by omega) hl'
   exact ⟨A2,c2,by rw [Yc (by omega)];exact k1,k2.le hle,k3⟩
theorem GtL.rdG {G:Nat→Prop}(h:GtL W B A i c xs ar ls)(hl:ls.length=i)(hG:∀ b,B≤b→b<W.heap.size→G b):RdG (msk W G) A i (gatesOf ar ls):=by
 refine ⟨by simp [gatesOf,hl],fun j row hr=>?_⟩;unfold gatesOf at hr;rw [Yt] at hr
 cases e:ls[j]? with
 | none=>rw [e] at hr;cases hr
 | some l =>
  rw [e] at hr
  cases hr
  obtain ⟨A2,c2,k1,k2,k3⟩:=h.2 j l (by rw [←hl];exact (Zs e).1) e;obtain ⟨b,o,e2,k4⟩:=h.1.rds.2 _ _ k1;have hb:=h.1.lt b (by rw [e2];rfl);exact ⟨b,o,A2,_,c2,e2,Qao.2 ⟨hG b hb.1 hb.2,k4⟩,k2.le (Qay (fun b hb=>hG b hb.1 hb.2.1)),k3⟩
end
set_option maxHeartbeats 4000000 in
set_option maxRecDepth 20000 in
theorem Qqx (A B C Q:Option Addr)(n m k c d e L cq:Nat)(N:Qai) (ls:List (List Int)) (w:World) (h:Qbc w A B C n m k N) (hok:Qav N) (hq:RdT w Q L ls) (hP:Qbw N.vs.length ls) :
 Calls prog 37 #[.agg #[.slice A n c,.slice B m d,.slice C k e],.agg #[.slice Q L cq]] w fun r w'=>∃ A' c',r=.returned (.slice A' L c')∧RdG (msk w' (fun b=>w.heap.size≤b∧b<w'.heap.size)) A' L (gatesOf N.ar ls)∧Below w.heap.size w w':=by
 have HH:=Zh h;have HT:=Zh hq;have HP:=Zh hP;have HOK:=Zh hok;have HVN:=Zh h.1.1;have hn4:n≤4096:=by rw [←h.1.1];exact hok.lv
 have hm:N.ar.length≤16384:=hok.la;have HMM:=Zh hm;have HLM:=Zh h.2.1.1;have l6:L≤6:=by rw [←hq.1];exact hP.l6
 clear h hok hq hP hm
 go_enter func37,ntmps37
 go_wp2_with fail
 (refine Qag ?_;intro w1 hw1)
 have hb1:Below w.heap.size w w1:=by rw [hw1];exact Qaf
 have hX:Blk w1 w.heap.size 26 #[.slice A n c,.slice B m d,.slice C k e]:=by
  rw [hw1];refine Blk.alloc ?_ _;exact Blk.new _ _ _
 have hY:Blk w1 (w.heap.size+1) 29 #[.slice Q L cq]:=by
  rw [hw1];refine Blk.new' _ _ _ ?_;simp
 clear hw1
 go_loopw [5,6] (fun z q W=>∃ (i:Nat) (A':Option Addr) (c':Nat) (xs:List Value),i≤L∧q=.int .i64 ((i:Int)+1)∧z=.slice A' i c'∧GtL W w1.heap.size A' i c' xs N.ar ls∧Below w1.heap.size w1 W) (fun _ q _=>L+1-(intOf q).toNat)
 case atStart=>exact ⟨0,none,0,[],Nat.zero_le _,rfl,rfl,GtL.nil _ _ _ _,Zr _ _⟩
 case round =>
  obtain ⟨i,A',c',xs,hi,rfl,rfl,hGt,hbl⟩:=hrel;have HGT:=Zh hGt;have hbw:=Zb hb1 hbl;have hXr:=hX.below hbl hX.lt;have hYr:=hY.below hbl hY.lt;have x0:wr.cell? ⟨w.heap.size,0,none⟩=some (.slice A n c):=Zq hXr;have x1:wr.cell? ⟨w.heap.size,1,none⟩=some (.slice B m d):=Zq hXr;have x2:wr.cell? ⟨w.heap.size,2,none⟩=some (.slice C k e):=Zq hXr;have y0:wr.cell? ⟨w.heap.size+1,0,none⟩=some (.slice Q L cq):=Zq hYr;have yl:=hYr.lt;clear hGt
  by_cases hlt:i<L
  rotate_left
  · obtain rfl:i=L:=by omega
    have i1:¬((i:Int)+1≤(i:Int)):=by omega
    go_wp2_with fail
    go_ret
    exact ⟨A',⟨c',rfl⟩,HGT.out.rdG HT.out.1 (fun b h1 h2=>⟨by have:=hb1.size;omega,h2⟩),hbw⟩
  obtain ⟨qb,qo,LA,ln,lc,l,rfl,hl,hc,hr,q1,q2⟩:=HT.out.at_ hlt;have hlo:=HP.out.lvl l (Zm hl);obtain rfl:n=ln:=by rw [←hr.1,hlo.len];exact HVN.out.symm
  have hM0:=Qbt l;have hM1:=Qbq (l:=l) (n:=(n:Int)) (fun x hx=>by have:=hlo.hi x hx;have:=HVN.out;omega) (by omega);obtain ⟨M,hM⟩:∃ M:Nat,Qaj l=M:=⟨(Qaj l).toNat,by omega⟩;have HCN:=Zh (show ∀ V,Below w.heap.size w V→Calls prog 61 #[.agg #[.slice (some ⟨qb,qo,none⟩) L cq],.int .i64 ((i:Int)+1)] V fun e w'=>e=.returned (.int .i64 M)∧Below V.heap.size V w' from fun V hV=>hM▸Qjx _ L cq i ls l V (HT.out.below hV) hl (by omega) (fun x hx=>⟨hlo.lo x hx,by have:=hlo.hi x hx;have:=HVN.out;omega⟩) (by have:=hlo.len;have:=HVN.out;omega))
  have HCR:=Zh (fun V (hV:Below w.heap.size w V)=>Qre A B C (some ⟨qb,qo,none⟩) n m k c d e L cq i N ls l V (HH.out.below hV) HOK.out (HT.out.below hV) hl hlo.len (by omega));have HLO:=Zh hlo;have HLL:=Zh hl;have HR:=Zh hr;have HC:=Zh hc;have HMM2:=Zh hM;rw [hM] at hM0 hM1;have hM3:M≤1000000:=by omega
  have hmkc:=Qnf M hM3;have i1:(i:Int)+1≤(L:Int):=by omega
  clear hr hlo hl hc q1 q2 hM
  go_wp2_with fail
  with_reducible refine (HCN.out wr hbw).mono ?_
  rintro r w2' ⟨rfl,hb2⟩;obtain ⟨w2,hw2⟩:∃ w2,w2=w2':=⟨_,rfl⟩;subst hw2;have hbr2:=hb2;have hbl2:=Zb hbl hb2;have hbw2:=Zb hbw hb2;have HGT2:=Zh (HGT.out.below hb2);have hX2:=hXr.below hb2 hXr.lt;have hY2:=hYr.below hb2 hYr.lt;clear x0 x1 x2 y0 yl hb2 hXr hYr hbl hbw HGT;have x0:w2.cell? ⟨w.heap.size,0,none⟩=some (.slice A n c):=Zq hX2;have x1:w2.cell? ⟨w.heap.size,1,none⟩=some (.slice B m d):=Zq hX2;have x2:w2.cell? ⟨w.heap.size,2,none⟩=some (.slice C k e):=Zq hX2;have y0:w2.cell? ⟨w.heap.size+1,0,none⟩=some (.slice (some ⟨qb,qo,none⟩) L cq):=Zq hY2;have yl:=hY2.lt;have hz12:=hbl2.size;have hXl:=hX2.lt;have x0b:=fun o=>Zc (show Below w2.heap.size w2 (w2.alloc o) from Qaf) (Zn _) x0
  have x1b:=fun o=>Zc (show Below w2.heap.size w2 (w2.alloc o) from Qaf) (Zn _) x1
  have x2b:=fun o=>Zc (show Below w2.heap.size w2 (w2.alloc o) from Qaf) (Zn _) x2
  have y0b:=fun o=>Zc (show Below w2.heap.size w2 (w2.alloc o) from Qaf) (Zn _) y0
  go_wp2_with fail
  (refine Qac ?_;intro w5 hw5)
  have hb45:Below w2.heap.size w2 w5:=by rw [hw5];exact Qaf
  have hC5:Blk w5 w2.heap.size 95 (Qbd (.slice none 0 0) (M*2)):=by rw [hw5];exact Blk.new _ _ _
  clear hw5 x0 x1 x2 y0 x0b x1b x2b y0b hmkc;have hbw5:=Zb hbw2 hb45;have hz45:w2.heap.size+1≤w5.heap.size:=by have:=hC5.lt;omega
  with_reducible refine (HCR.out w5 hbw5).mono ?_
  rintro r w6 ⟨AX,KX,cX,rfl,hX6,hXlo,hb6⟩;have HXlo:=Zh hXlo;clear hXlo;have hKX:KX=(Qat N.ar l).length:=hX6.1.symm;subst hKX;have hb26:=Zb hb45 hb6;have hbw6:=Zb hbw5 hb6
  have hI6:IkG 95 w6 w6.heap.size w2.heap.size (M*2) (Qdn (toC N.ar l) (frC N.ar l) ((Qat N.ar l).take 0) M):=by
   rw [List.take_zero,Qon];exact IkG.start (by have:=hb6.size;omega) (hC5.below hb6 hC5.lt)
  have HXL:=Zh (show ∀ x∈Qat N.ar l,∃ (a:Nat) (y:Tri),x=(a:Int)∧N.ar[a]?=some y from fun x hx=>by
   obtain ⟨a,y,e1,e2,_⟩:=Qhm.1 hx;exact ⟨a,y,e1,e2⟩)
  have hXm:(Qat N.ar l).length≤16384:=Yx (Qfi _ _) HMM.out;have hz56:=hb6.size;have HX6:=Zh hX6;clear hC5 hb45 hb6 hbw5;generalize hKK:(Qat N.ar l).length=K at *;have HKK:=Zh hKK;clear hKK
  go_wp2_with fail
  go_loopw [9] (fun q W=>w6.heap.size≤W.heap.size∧Below w2.heap.size w2 W∧∃ j:Nat,j≤K∧q=.int .i64 j∧RdI W AX K (Qat N.ar l)∧IkG 95 W w6.heap.size w2.heap.size (M*2) (Qdn (toC N.ar l) (frC N.ar l) ((Qat N.ar l).take j) M)) (fun q _=>K-(intOf q).toNat)
  case atStart=>exact ⟨Zn _,hb26,0,Nat.zero_le _,rfl,hX6,hI6⟩
  case round =>
   clear hb26 hX6 hI6;obtain ⟨hsz6,hbl2w,j,hj,rfl,hXj,hI⟩:=hrel
   by_cases hlt2:j<K
   rotate_left
   · obtain rfl:K=j:=by omega
     rw [Ye (by rw [HKK.out];exact Zn _)] at hI;have HG9:=Zh (HGT2.out.below hbl2w)
     have HRC:=Zh (show RdC (msk wr (fun b=>w1.heap.size≤b∧b<wr.heap.size∧Qaa A'≠some b)) (some ⟨w2.heap.size,0,none⟩) (Qaj l).toNat (gateRow N.ar l) from by
      have hI':IkG 95 wr w6.heap.size w2.heap.size ((Qaj l).toNat*2) (Qdn (toC N.ar l) (frC N.ar l) (Qat N.ar l) (Qaj l).toNat):=by
       rw [HMM2.out,Yl];exact hI
      exact hI'.rdCM ⟨by omega,hI.lt,fun e=>by have:=(HGT2.out.1.lt _ e).2;omega⟩ (fun b h1 h2=>⟨by omega,h2,fun e=>by have:=(HGT2.out.1.lt _ e).2;omega⟩))
     have HMN:=Zh (show (Qaj l).toNat=M by rw [HMM2.out];simp)
     obtain ⟨W2,hW2⟩:∃ W2,W2=wr.alloc (.cells #[.slice (some ⟨w2.heap.size,0,none⟩) M M] 92):=⟨_,rfl⟩;have hbW:Below wr.heap.size wr W2:=by rw [hW2];exact Qaf
     have HG10:=Zh (HG9.out.below hbW);have hown:=HG10.out.1;have hrd:Rds W2 1 (some ⟨wr.heap.size,0,none⟩) 1 [.slice (some ⟨w2.heap.size,0,none⟩) M M]:=by rw [hW2];exact (Blk.new wr 92 #[.slice (some ⟨w2.heap.size,0,none⟩) M M]).rds rfl
     have hsz:w1.heap.size≤W2.heap.size:=by have:=hbW.size;have:=hbl2w.size;omega
     have hbw9:=Zb (Zb hbl2 hbl2w) hbW;have HW2:=Zh hW2;have j2:¬((K:Int)<(K:Int)):=by omega
     clear hW2 hI hXj
     go_wp2_with (at_builtin;rw [←HW2.out];with_reducible refine Qas rfl (.tmp 97) (.tmp 99) 35 rfl 92 _ 1 24 Qul underlying35 rfl (by omega) rfl rfl hown hrd (Qbz _ _ _) (by omega) (by omega) hsz ?_)
     intro A3 c3 w8 ho8 hg8 hat8;have HB8:=Zh (Zo hbw9 hg8 hown hsz);have HG11:=Zh (show GtL w8 w1.heap.size A3 (i+1) c3 (xs ++[.slice (some ⟨w2.heap.size,0,none⟩) (Qaj l).toNat M]) N.ar ls from HG10.out.push HLL.out (HRC.out.le (Le.trans (Qax.msk (Qax.below hbW)) (Qay (fun b hb'=>⟨hb'.1,Yu hb'.2.1 hbW.size,hb'.2.2⟩)))) (by rw [HMN.out];exact Zn _) (by omega) (by rw [HMN.out];exact ho8) hg8 hat8)
     clear hown hrd hsz hbw9 ho8 hg8 hat8 hbW
     go_wp2_with fail
     go_roundw
     case rel=>exact ⟨i+1,A3,c3,_,by omega,by go_num,rfl,HG11.out,HB8.out⟩
     case measure=>simp [intOf];omega
   obtain ⟨xb,xo,x,rfl,hx,hc6⟩:=HX6.out.at_ hlt2;obtain ⟨a,⟨u,v,z⟩,rfl,hay⟩:=HXL.out x (Zm hx);have hxb6:=Qae hc6;simp only at hxb6;have hu0:=HOK.out.arcs _ (Zm hay);have f0:=hu0.f0;have f1:=hu0.f1;have g0:=hu0.g0;have g1:=hu0.g1;simp only at f0 f1 g0 g1;rw [HVN.out] at f1 g1;obtain ⟨u,rfl⟩:∃ u':Nat,u=u':=⟨u.toNat,by omega⟩;obtain ⟨v,rfl⟩:∃ v':Nat,v=v':=⟨v.toNat,by omega⟩;obtain ⟨p,hp1,hp2,hp3⟩:=Qht HLO.out (v:=v) (by rw [HVN.out];omega);obtain ⟨q,hq1,hq2,hq3⟩:=Qht HLO.out (v:=u) (by rw [HVN.out];omega);rw [HMM2.out,Yl] at hp2 hq2;have hbww:=Zb hbw2 hbl2w;obtain ⟨rb,ro,_,rfl,e1,cp⟩:=(HR.out.below hbww).at_ (i:=v) (by omega);rw [hp3] at e1
   cases e1
   obtain ⟨rb',ro',_,e2,e1,cq'⟩:=(HR.out.below hbww).at_ (i:=u) (by omega);rw [hq3] at e1
   cases e1
   cases e2
   have hrow:=Zc hbww (Zn _) HC.out;obtain ⟨ab,ao,rfl,y1,y2,y3⟩:=(HH.out.below hbww).2.1.2 a _ hay;simp only at y1 y2 y3;have hXr:=hX2.below hbl2w hX2.lt;have hYr:=hY2.below hbl2w hY2.lt;have ham:a<m:=by rw [←HLM.out];exact (Zs hay).1
   obtain ⟨_,_,_,eX,hx',hcx⟩:=hXj.at_ hlt2
   cases eX
   rw [hx] at hx'
   cases hx'
   have HNX:=Zh (show Qdn (toC N.ar l) (frC N.ar l) ((Qat N.ar l).take (j+1)) M=((Qdn (toC N.ar l) (frC N.ar l) ((Qat N.ar l).take j) M).set (p*2) (((Qat N.ar l).take j).filter (fun a=>toC N.ar l a == (p:Int)) ++[(a:Int)])).set (q*2+1) (((Qat N.ar l).take j).filter (fun a=>frC N.ar l a == (q:Int)) ++[(a:Int)]) by
    rw [Qmi ((Qoa hay).trans hp1) ((Qnt hay).trans hq1) hp2 hq2,Yf (Zs hx).1,(Zs hx).2])
   have HP1:=Zh (Qjs (t:=toC N.ar l) (f:=frC N.ar l) (X:=(Qat N.ar l).take j) hp2);have HQ1:=Zh (Qic (t:=toC N.ar l) (f:=frC N.ar l) (X:=(Qat N.ar l).take j) hq2);have hfl1:(((Qat N.ar l).take j).filter (fun a=>toC N.ar l a == (p:Int))).length≤j:=Yx (List.length_filter_le _ _) (List.length_take_le _ _);have hfl2:(((Qat N.ar l).take j).filter (fun a=>frC N.ar l a == (q:Int))).length≤j:=Yx (List.length_filter_le _ _) (List.length_take_le _ _);have k1:(0:Int)≤(j:Int):=by omega
   have k2:(j:Int)<(K:Int):=by omega
   have k3:(0:Int)≤(v:Int):=by omega
   have k4:(v:Int)<(n:Int):=by omega
   have k5:(0:Int)≤(u:Int):=by omega
   have k6:(u:Int)<(n:Int):=by omega
   have k7:(0:Int)≤(p:Int):=by omega
   have k8:(p:Int)<(M:Int):=by omega
   have k9:(0:Int)≤(q:Int):=by omega
   have k10:(q:Int)<(M:Int):=by omega
   have k11:(0:Int)≤(a:Int):=by omega
   have k12:(a:Int)<(m:Int):=by omega
   have k13:(0:Int)≤(i:Int):=by omega
   have k14:(i:Int)<(L:Int):=by omega
   have k15:(i:Int)+1-1=(i:Int):=by omega
   have wl:IntKind.i64.wrap (i:Int)=(i:Int):=IntWalk.i64_in _ (by omega)
   have HSX:=Zh (show ∀ V,Below wr.heap.size wr V→V.cell? ⟨w.heap.size,1,none⟩=some (.slice (some ⟨ab,ao,none⟩) m d)∧V.cell? ⟨w.heap.size+1,0,none⟩=some (.slice (some ⟨qb,qo,none⟩) L cq)∧V.cell? ⟨qb,qo+i,none⟩=some (.slice (some ⟨rb,ro,none⟩) n lc)∧V.cell? ⟨ab,ao+a*3,none⟩=some (.int .i64 u)∧V.cell? ⟨ab,ao+a*3+1,none⟩=some (.int .i64 v)∧V.cell? ⟨rb,ro+v,none⟩=some (.int .i64 p)∧V.cell? ⟨rb,ro+u,none⟩=some (.int .i64 q)∧V.cell? ⟨xb,xo+j,none⟩=some (.int .i64 a) from
    fun V hV=>⟨by rw [(hXr.below hV hXr.lt).cell];rfl,by rw [(hYr.below hV hYr.lt).cell];rfl,Zc hV (Zn _) hrow,Zc hV (Zn _) y1,Zc hV (Zn _) y2,Zc hV (Zn _) cp,Zc hV (Zn _) cq',Zc hV (Zn _) hcx⟩)
   have HCX:=Zh hx;have HXB:=Zh (show w2.heap.size<xb∧xb<w6.heap.size from ⟨by have:=HXlo.out xb rfl;omega,hxb6⟩)
   have HIV0:=Zh hI;have HXV0:=Zh hXj;have HWV0:=Zh hbl2w;clear hx hay hu0 hp1 hq1 hp3 hq3 cp cq' hrow y1 y2 y3 hXr hYr hcx hI hXj hbl2w hbww hc6 hxb6;generalize ((Qat N.ar l).take j).filter (fun a=>toC N.ar l a == (p:Int))=lp at *;generalize ((Qat N.ar l).take j).filter (fun a=>frC N.ar l a == (q:Int))=lq at *
   go_wp2_with fail
   refine wp_region_held_drew (S:=fun V=>Below wr.heap.size wr V) (by kernel_rfl) (Zr _ _).drew (fun _=>?_);refine tz 0 33 ?_;refine tz 1 34 ?_;refine tz 2 35 ?_;refine tz 3 36 ?_;refine tz 4 37 ?_;refine tz 5 38 ?_;refine tz 6 39 ?_;refine tz 7 40 ?_;refine tz 8 41 ?_;refine tz 9 42 ?_;refine tz 10 43 ?_;refine tz 11 44 ?_;refine tz 12 45 ?_;refine tz 13 46 ?_;refine tz 14 47 ?_;refine tz 15 48 ?_;refine tz 16 49 ?_;refine tz 17 10 ?_;refine Zd ?_
   go_wp2_with fail
   refine wp_region_held_drew (S:=fun V=>Below wr.heap.size wr V) (by kernel_rfl) (Zr _ _).drew.drew (fun _=>?_);refine tz 0 50 ?_;refine tz 1 51 ?_;refine tz 2 52 ?_;refine tz 3 53 ?_;refine tz 4 54 ?_;refine tz 5 55 ?_;refine tz 6 56 ?_;refine tz 7 57 ?_;refine tz 8 58 ?_;refine tz 9 59 ?_;refine tz 10 60 ?_;refine tz 11 61 ?_;refine tz 12 62 ?_;refine tz 13 63 ?_;refine tz 14 64 ?_;refine tz 15 65 ?_;refine tz 16 66 ?_;refine tz 17 11 ?_;refine Zd ?_;clear HSX;obtain ⟨V1,hV1⟩:∃ V1,V1=wr.drew.drew:=⟨_,rfl⟩;rw [←hV1];have hbV:Below wr.heap.size wr V1:=by rw [hV1];exact (Zr _ _).drew.drew
   have HIV:=Zh (HIV0.out.below hbV);have HXV:=Zh (HXV0.out.below hbV);have HWV:=Zh (Zb HWV0.out hbV);have HZV:=Zh (Yx hsz6 hbV.size);have HLX:=Zh HP1.out;clear hV1 hbV HIV0 HXV0 HWV0 hsz6
   go_wp2_with fail
   obtain ⟨Ac,cc,lc,ec,cwc,ffc,hoc⟩:=HIV.out.row (u:=p*2) (by omega);rw [HLX.out] at ec
   cases ec
   have hXt:=HXV.out.at_ hlt2;obtain ⟨xb',xo',x',ee,hx',hcx⟩:=hXt
   cases ee
   rw [HCX.out] at hx'
   cases hx'
   have hxA:∀ g,Qaa Ac=some g→g≠xb∧g≠w2.heap.size:=fun g e=>by have h1:=(hoc.lt g e).1;have:=HXB.out;omega
   have hoz:=HWV.out.size;refine Qbf 15 (S:=fun V=>V.cell? ⟨w2.heap.size,p*2,none⟩=some (.slice Ac lp.length cc)∧V.cell? ⟨xb,xo+j,none⟩=some (.int .i64 (a:Int))) (by kernel_rfl) ⟨cwc,hcx⟩ (fun _=>?_);refine tkF 0 67 (h:=⟨_,tv,?_⟩);simp only [pE,List.set];refine tkF 1 68 (h:=⟨_,tv,?_⟩);simp only [pE,List.set];refine tkF 2 69 (h:=⟨_,tv,?_⟩);simp only [pE,List.set];refine tkF 3 70 (h:=⟨_,tv,?_⟩);simp only [pE,List.set];refine tkF 4 71 (h:=⟨_,tv,?_⟩);simp only [pE,List.set];refine tkF 5 72 (h:=⟨_,tv,?_⟩);simp only [pE,List.set];refine tkK 6 73 (h:=⟨_,tv,?_⟩);simp only [pE,List.set];refine tkF 7 74 (h:=⟨_,tv,?_⟩);simp only [pE,List.set];refine tkF 8 75 (h:=⟨_,tv,?_⟩);simp only [pE,List.set];refine tkF 9 76 (h:=⟨_,tv,?_⟩);simp only [pE,List.set];refine tkK 10 77 (h:=⟨_,tv,?_⟩);simp only [pE,List.set];obtain ⟨w9,hw9⟩:∃ w9,w9=(V1.alloc (.cells #[.int .i64 (a:Int)] 3)).drew:=⟨_,rfl⟩;have hb9:Below V1.heap.size V1 w9:=by rw [hw9];exact ((Zr _ _).alloc (Zn _) _).drew
   have hI9:=HIV.out.below hb9;have hX9:=HXV.out.below hb9;have hrd9:Rds w9 1 (some ⟨V1.heap.size,0,none⟩) 1 (Qad [(a:Int)]):=by rw [hw9];exact ((Blk.new V1 3 (Qcv [(a:Int)])).drew).rds rfl
   have hro9:=hoc.below hb9;have hrc9:=Zc hb9 (Zn _) cwc;have hcx9:=Zc hb9 (Zn _) hcx;have hwb9:=Zb HWV.out hb9;have hsz9:w6.heap.size≤w9.heap.size:=Yx HZV.out hb9.size;refine Qbb (i:=11) (by kernel_rfl) (by rfl) rfl (fun K hK=>?_);go_simp;rw [←hw9];refine hK.out _ _ ⟨hrc9,hcx9⟩ (fun _=>?_);clear hK K hw9;refine Qbb (i:=12) (by kernel_rfl) (by rfl) rfl (fun K hK=>?_);with_reducible refine Qar (some 79) rfl rfl (.tmp 73) (.tmp 78) 93 rfl 3 _ 1 8 Qbk underlying93 rfl (by omega) rfl rfl hro9 hrd9 (Qam _) (by omega) (by omega) hsz9 ?_
   intro RA' rc' w10 ho10 hg10 hat10
   have hcg:w10.cell? ⟨w2.heap.size,p*2,none⟩=some (.slice Ac lp.length cc):=by
    rw [World.cell?_of_block (hg10.block w2.heap.size (by have:=hI9.lt;omega) (fun e=>(hxA _ e.symm).2 rfl))];exact hrc9
   have hcy:w10.cell? ⟨xb,xo+j,none⟩=some (.int .i64 (a:Int)):=by
    rw [World.cell?_of_block (hg10.block xb (by have:=HXB.out;omega) (fun e=>(hxA _ e.symm).1 rfl))];exact hcx9
   obtain ⟨xf,hfv,hff⟩:=hI9.cellG (u:=p*2) (by omega) hg10 (hro9.ne (by omega));refine hK.out _ _ ⟨hcg,hcy⟩ (fun _=>?_);clear hK K;simp only [Act.put,Yi,Yj,Yk];have hIF:=hI9.push HLX.out hrc9 ho10 hg10 hat10;have hbF:Below w2.heap.size w2 (w10.setCell ⟨w2.heap.size,p*2,none⟩ (.slice RA' (lp.length+1) rc')):=Zi (hwb9.grown hg10 (by omega) (fun g e=>by have:=(hro9.lt g e).1;omega)) (by omega)
   have hXF:RdI (w10.setCell ⟨w2.heap.size,p*2,none⟩ (.slice RA' (lp.length+1) rc')) (some ⟨xb,xo,none⟩) K (Qat N.ar l) :=
    (RdK.grownN hX9 hg10 (fun g hg e=>(hxA g e).1 (by cases hg;rfl))).far _ (fun e=>by have:=HXB.out;have e2:xb=w2.heap.size:=Yv e;omega)
   have hzF:w6.heap.size≤(w10.setCell ⟨w2.heap.size,p*2,none⟩ (.slice RA' (lp.length+1) rc')).heap.size:=by have:=hg10.size;simp [World.setCell];omega
   refine tkF 13 80 (h:=⟨_,tv,?_⟩);simp only [pE,List.set];refine tkF 14 81 (h:=⟨_,tv,?_⟩);simp only [pE,List.set];refine Qbs (k:=15) (by kernel_rfl) rfl (fun K hK=>?_);go_simp;refine hK.out _ _ ?_;clear hK K;refine Qbm (by kernel_rfl) ?_ _;obtain ⟨V2,hVO⟩:∃ V2,V2=w10.setCell ⟨w2.heap.size,p*2,none⟩ (.slice RA' (lp.length+1) rc'):=⟨_,rfl⟩;rw [←hVO] at hIF hbF hXF hzF ⊢;clear hVO hcg hcy hfv hff ho10 hg10 hat10 hI9 hX9 hrd9 hro9 hrc9 hcx9 hwb9 hsz9 hb9 hxA hoz cwc ffc hoc hcx HIV HXV HZV HWV HLX;have HIV:=Zh hIF;have HXV:=Zh hXF;have HZV:=Zh hzF;have HWV:=Zh hbF;clear hIF hbF hXF hzF;have HLX:=Zh (show ((Qdn (toC N.ar l) (frC N.ar l) ((Qat N.ar l).take j) M).set (p*2) (lp ++[(a:Int)]))[q*2+1]?=some lq by rw [Yh (by omega)];exact HQ1.out)
   go_wp2_with fail
   obtain ⟨Ac,cc,lc,ec,cwc,ffc,hoc⟩:=HIV.out.row (u:=q*2+1) (by omega);rw [HLX.out] at ec
   cases ec
   have hXt:=HXV.out.at_ hlt2;obtain ⟨xb',xo',x',ee,hx',hcx⟩:=hXt
   cases ee
   rw [HCX.out] at hx'
   cases hx'
   have hxA:∀ g,Qaa Ac=some g→g≠xb∧g≠w2.heap.size:=fun g e=>by have h1:=(hoc.lt g e).1;have:=HXB.out;omega
   have hoz:=HWV.out.size;refine Qbf 15 (S:=fun V=>V.cell? ⟨w2.heap.size,q*2+1,none⟩=some (.slice Ac lq.length cc)∧V.cell? ⟨xb,xo+j,none⟩=some (.int .i64 (a:Int))) (by kernel_rfl) ⟨cwc,hcx⟩ (fun _=>?_);refine tkF 0 82 (h:=⟨_,tv,?_⟩);simp only [pE,List.set];refine tkF 1 83 (h:=⟨_,tv,?_⟩);simp only [pE,List.set];refine tkF 2 84 (h:=⟨_,tv,?_⟩);simp only [pE,List.set];refine tkF 3 85 (h:=⟨_,tv,?_⟩);simp only [pE,List.set];refine tkF 4 86 (h:=⟨_,tv,?_⟩);simp only [pE,List.set];refine tkF 5 87 (h:=⟨_,tv,?_⟩);simp only [pE,List.set];refine tkK 6 88 (h:=⟨_,tv,?_⟩);simp only [pE,List.set];refine tkF 7 89 (h:=⟨_,tv,?_⟩);simp only [pE,List.set];refine tkF 8 90 (h:=⟨_,tv,?_⟩);simp only [pE,List.set];refine tkF 9 91 (h:=⟨_,tv,?_⟩);simp only [pE,List.set];refine tkK 10 92 (h:=⟨_,tv,?_⟩);simp only [pE,List.set];obtain ⟨w9,hw9⟩:∃ w9,w9=(V2.alloc (.cells #[.int .i64 (a:Int)] 3)).drew:=⟨_,rfl⟩;have hb9:Below V2.heap.size V2 w9:=by rw [hw9];exact ((Zr _ _).alloc (Zn _) _).drew
   have hI9:=HIV.out.below hb9;have hX9:=HXV.out.below hb9;have hrd9:Rds w9 1 (some ⟨V2.heap.size,0,none⟩) 1 (Qad [(a:Int)]):=by rw [hw9];exact ((Blk.new V2 3 (Qcv [(a:Int)])).drew).rds rfl
   have hro9:=hoc.below hb9;have hrc9:=Zc hb9 (Zn _) cwc;have hcx9:=Zc hb9 (Zn _) hcx;have hwb9:=Zb HWV.out hb9;have hsz9:w6.heap.size≤w9.heap.size:=Yx HZV.out hb9.size;refine Qbb (i:=11) (by kernel_rfl) (by rfl) rfl (fun K hK=>?_);go_simp;rw [←hw9];refine hK.out _ _ ⟨hrc9,hcx9⟩ (fun _=>?_);clear hK K hw9;refine Qbb (i:=12) (by kernel_rfl) (by rfl) rfl (fun K hK=>?_);with_reducible refine Qar (some 94) rfl rfl (.tmp 88) (.tmp 93) 93 rfl 3 _ 1 8 Qbk underlying93 rfl (by omega) rfl rfl hro9 hrd9 (Qam _) (by omega) (by omega) hsz9 ?_
   intro RA' rc' w10 ho10 hg10 hat10
   have hcg:w10.cell? ⟨w2.heap.size,q*2+1,none⟩=some (.slice Ac lq.length cc):=by
    rw [World.cell?_of_block (hg10.block w2.heap.size (by have:=hI9.lt;omega) (fun e=>(hxA _ e.symm).2 rfl))];exact hrc9
   have hcy:w10.cell? ⟨xb,xo+j,none⟩=some (.int .i64 (a:Int)):=by
    rw [World.cell?_of_block (hg10.block xb (by have:=HXB.out;omega) (fun e=>(hxA _ e.symm).1 rfl))];exact hcx9
   obtain ⟨xf,hfv,hff⟩:=hI9.cellG (u:=q*2+1) (by omega) hg10 (hro9.ne (by omega));refine hK.out _ _ ⟨hcg,hcy⟩ (fun _=>?_);clear hK K;simp only [Act.put,Yi,Yj,Yk];have hIF:=hI9.push HLX.out hrc9 ho10 hg10 hat10;have hbF:Below w2.heap.size w2 (w10.setCell ⟨w2.heap.size,q*2+1,none⟩ (.slice RA' (lq.length+1) rc')):=Zi (hwb9.grown hg10 (by omega) (fun g e=>by have:=(hro9.lt g e).1;omega)) (by omega)
   have hXF:RdI (w10.setCell ⟨w2.heap.size,q*2+1,none⟩ (.slice RA' (lq.length+1) rc')) (some ⟨xb,xo,none⟩) K (Qat N.ar l) :=
    (RdK.grownN hX9 hg10 (fun g hg e=>(hxA g e).1 (by cases hg;rfl))).far _ (fun e=>by have:=HXB.out;have e2:xb=w2.heap.size:=Yv e;omega)
   have hzF:w6.heap.size≤(w10.setCell ⟨w2.heap.size,q*2+1,none⟩ (.slice RA' (lq.length+1) rc')).heap.size:=by have:=hg10.size;simp [World.setCell];omega
   refine tkF 13 95 (h:=⟨_,tv,?_⟩);simp only [pE,List.set];refine tkF 14 96 (h:=⟨_,tv,?_⟩);simp only [pE,List.set];refine Qbs (k:=15) (by kernel_rfl) rfl (fun K hK=>?_);go_simp;refine hK.out _ _ ?_;clear hK K;refine Qbm (by kernel_rfl) ?_ _;obtain ⟨V3,hVO⟩:∃ V3,V3=w10.setCell ⟨w2.heap.size,q*2+1,none⟩ (.slice RA' (lq.length+1) rc'):=⟨_,rfl⟩;rw [←hVO] at hIF hbF hXF hzF ⊢;clear hVO hcg hcy hfv hff ho10 hg10 hat10 hI9 hX9 hrd9 hro9 hrc9 hcx9 hwb9 hsz9 hb9 hxA hoz cwc ffc hoc hcx HIV HXV HZV HWV HLX;have HIV:=Zh hIF;have HXV:=Zh hXF;have HZV:=Zh hzF;have HWV:=Zh hbF;clear hIF hbF hXF hzF;have hIF:=HIV.out;rw [←HNX.out] at hIF;have HIF:=Zh hIF;clear hIF HIV
   go_wp2_with fail
   go_roundw
   case rel=>exact ⟨HZV.out,HWV.out,j+1,by omega,by go_num,HXV.out,HIF.out⟩
   case measure=>simp [intOf];omega
end Go.Proofs.YthoagdpakddbdaaGreatDoor
