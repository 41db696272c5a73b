/- Parts of the proof: MdG, MdF, MdA. -/
import Derived.Test.YthoagdpakddbdaaGreatDoorK1
import Derived.Test.YthoagdpakddbdaaGreatDoorK13
import Derived.Test.YthoagdpakddbdaaGreatDoorK15
import Derived.Test.YthoagdpakddbdaaGreatDoorK18
import Derived.Test.YthoagdpakddbdaaGreatDoorK19
import Derived.Test.YthoagdpakddbdaaGreatDoorK21
import Derived.Test.YthoagdpakddbdaaGreatDoorK22
import Derived.Test.YthoagdpakddbdaaGreatDoorK24
namespace Go.Proofs.YthoagdpakddbdaaGreatDoor
open Go.RowKit Go.Proofs.Tryz
attribute [local go_sem ↓] Go.wp_at_zero Go.wp_at_succ
theorem Qmx {w:World}{ops:Array Oper}{rest:List Oper}{o:Oper}{a:Act}{Q:Exit→Act→World→Prop}(hgd:o.guard=none)(d s:Operand)
 (ho:o.op=.call { callee:=.builtin .copy,args:=#[d,s],argTypes:=#[30,30] })
 (A dp:Option Addr) (n cp dN dC B off:Nat) (cl ces:List Int) (hd:a.eval d=.slice dp dN dC) (hs:a.eval s=.slice A n cp) (hn:n≤dN) (hdp:0<n→dp=some ⟨B,off,none⟩)
 (hB:Blk w B 2 (Qad cl).toArray) (hA:RdI w A n ces) (hfit:off+n≤cl.length)
 (h:∀ w',Blk w' B 2 (Qad (splice cl off ces)).toArray→Below B w w'→wpList prog ops Q rest (a.put o.dst (.int .i64 n)) w'):wpList prog ops Q (o::rest) a w:=by
 have hlen:ces.length=n:=hA.1
 refine wpList_copy_splice hgd d s 30 30 ho 2 underlying30 (by kernel_rfl) dp A dN dC n cp hd hs B off (Qad cl) 2 hB (Qad ces) (by rw [show (Qad ces).length=n by simp [Qad,hlen]];exact (Nat.min_eq_left hn).symm) (fun hp=>?_)
  (by simp [Qad,hlen];omega) (Qak _) B w (Zr _ _) (Zn _) (fun w' h1 h2=>?_)
 · have hn:0<n:=by simpa [Qad,hlen] using hp
   obtain ⟨z,hz⟩:∃ z,ces[0]?=some z:=⟨_,Zg (by omega)⟩;obtain ⟨b,o',e,_⟩:=hA.2 0 z hz;refine ⟨hdp hn,_,e,fun j v hv=>?_⟩
   have hj:∃ x,ces[j]?=some x∧v=.int .i64 x:=by
    simp [Qad] at hv;obtain ⟨x,e1,e2⟩:=hv;exact ⟨x,e1,e2.symm⟩
   obtain ⟨x,hx,rfl⟩:=hj;obtain ⟨b2,o2,e2,hc⟩:=hA.2 j x hx;rw [e] at e2
   cases e2
   unfold Addr.add
   by_cases h0:j=0
   · rw [if_pos h0]
     subst h0;exact hc
   · rw [if_neg h0]
     exact hc
 · have hw:=h w' (by rw [←Qgy];exact h1.out) h2
   rw [show goInt (Qad ces).length=Value.int .i64 (n:Int) by simp [Qad,hlen,goInt]]
   exact hw
def DoP (w:World)(F:Nat→Prop)(g:Nat)(N:Qaj) (ls:List (List Int)) (l:List Chn) (r:Ending) (w':World):Prop :=
 ∃ (B:Nat) (cl:List Int) (F':Nat→Prop),r=.returned (.tuple #[.slice (some ⟨B,0,none⟩) (Qbo (gatesOf N.ar ls)) (Qbo (gatesOf N.ar ls)),.int .i64 ((Qsv (tb ls (Qcz N ls l)):Nat):Int),.nilIface])∧w.heap.size≤B ∧
  Blk w' B 2 (Qad cl).toArray∧Qfe (Qef N l) ls cl∧(∀ b,F' b→(F b∨w.heap.size≤b)∧b<B)∧GrO w' F' g (Qef N l)∧Qaz (fun b=>¬F b) w w'∧w.heap.size≤w'.heap.size∧∀ Bd,Bd≤w.heap.size→(∀ b,F b→Bd≤b)→Below Bd w w'
theorem Qtk (L:List Int)(off:Nat):splice L off []=L:=by simp [splice]
set_option maxHeartbeats 1000000 in
theorem do_size (w:World)(g o:Nat)(ar:List Tri) (ls:List (List Int)) (A CA:Option Addr) (n cA NC cC:Nat) (ho:Qex w o ar ls) (hne:NC≠Qbo (gatesOf ar ls)) :
 Calls prog 19 #[.pointer (some ⟨g,0,none⟩),.pointer (some ⟨o,0,none⟩),.slice CA NC cC,.slice A n cA] w fun r w'=>∃ v,r=.returned (.tuple #[.slice none 0 0,.int .i64 0,v])∧Qcm w' v [((⟨#[109,101,110,100]⟩:ByteArray),0)] 1∧Below w.heap.size w w':=by
 have HSZ:=Zh (Qgw o ar ls w ho);obtain ⟨S,hS⟩:∃ S,S=Qbo (gatesOf ar ls):=⟨_,rfl⟩;rw [←hS] at HSZ hne;have i1:¬((NC:Int)=(S:Int)):=by omega
 clear ho hS
 go_enter func19,ntmps19
 go_wp2_with fail
 with_reducible refine HSZ.out.mono ?_
 rintro e w' ⟨rfl,rfl⟩
 go_wp2_with fail
 refine bodyPost_ret (v:=.tuple #[.slice none 0 0,.int .i64 0,fltV w.heap.size 0]) (by simp [results,results19,go_sem]) rfl ?_;exact ⟨_,rfl,⟨_,0,Qqa 1,rfl,by simp,by simp,by simp,rfl⟩,Qae⟩
set_option maxRecDepth 20000 in
set_option maxHeartbeats 8000000 in
theorem do_ok (w:World)(g o:Nat)(F:Nat→Prop)(N:Qaj) (ls:List (List Int)) (A CA:Option Addr) (n cA cC:Nat) (l:List Chn) (costs:List Int) (hg:GrO w F g N) (ho:Qex (msk w (fun b=>¬F b)) o N.ar ls) (hP:Qcl N.vs.length ls) (hNC:Qbo (gatesOf N.ar ls)≤1000000000)
 (hc:RdI (msk w (fun b=>¬F b)) CA (Qbo (gatesOf N.ar ls)) costs) (hall:Qfe N ls costs) (hl:Qiu (msk w (fun b=>¬F b)) A n l) (hb:Qbj N l) (hl256:l.length≤256) :
 Calls prog 19 #[.pointer (some ⟨g,0,none⟩),.pointer (some ⟨o,0,none⟩),.slice CA (Qbo (gatesOf N.ar ls)) cC,.slice A n cA] w (DoP w F g N ls l):=by
 have hok:=hg.ok;have hL6:ls.length≤6:=hP.l6;have hlv:=hok.lv;have hFw:∀ b,F b→b<w.heap.size:=fun b hb=>hg.lt hb
 have HSZ:=Zh (Qgw o N.ar ls w (ho.le (Qbt _ _)));have HTC:=Zh (Qrs w g o N ls A n cA l hg.rd hok (ho.le (Qbt _ _)) hP (hl.le (Qbt _ _)) hb hl256);have HG:=Zh hg;have HO:=Zh ho;have HP:=Zh hP;have HC:=Zh hc;have HAL:=Zh hall;have HL:=Zh hl;have HB:=Zh hb;have HOK:=Zh hok;have HFW:=Zh hFw;obtain ⟨M,hM⟩:∃ M,M=Qef N l:=⟨_,rfl⟩;have hsh:=Qcb hb;have hMok:=Qog hok hb;rw [←hM] at hsh hMok;have HM:=Zh hM;have HKIN:=Zh hsh.kin;have HMOK:=Zh hMok;have HMP:=Zh (show Qcl M.vs.length ls by rw [hsh.kin.vs];exact hP)
 obtain ⟨NC,hNCe⟩:∃ NC,NC=Qbo (gatesOf N.ar ls):=⟨_,rfl⟩;have hNCM:NC=Qbo (gatesOf M.ar ls):=by rw [hNCe,hsh.kin.al.gatesOf]
 rw [←hNCe] at HSZ hNC HC ⊢;have HNC:=Zh hNCe;have HNM:=Zh hNCM;obtain ⟨L,hLe⟩:∃ L,L=ls.length:=⟨_,rfl⟩;rw [←hLe] at HTC hL6;have HLE:=Zh hLe;have hmk:=Qfq NC (by omega);clear hg ho hP hc hall hl hb hok hFw hM hsh hMok hNCe hNCM hLe
 go_enter func19,ntmps19
 go_wp2_with fail
 with_reducible refine HSZ.out.mono ?_
 rintro e w' ⟨rfl,rfl⟩
 go_wp2_with fail
 with_reducible refine HTC.out.mono ?_
 rintro r w1 ⟨T,cs,bs,rfl,hT,hb1⟩;have HT1:=Zh hT;have HB1:=Zh hb1;have HAP:=Zh (apply_ok w1 g N F A n cA l (HG.out.below hb1) (HL.out.le (Qaz.below hb1).msk) HB.out hl256);clear HTC hT hb1 HSZ
 go_wp2_with fail
 with_reducible refine HAP.out.mono ?_
 rintro r w2 ⟨rfl,hav⟩;rw [←HM.out] at hav;have HAV:=Zh hav;have HT2:=Zh (HT1.out.kept hav.kept (fun b hB hF=>by have:=HFW.out b hF;omega));have HO2:=Zh (show Qex w2 o M.ar ls from ((HO.out.le ((Qaz.below HB1.out).msk)).le (hav.kept.msk.trans (Qbt _ _))).alike HKIN.out.al)
 have HC2:=Zh (show RdI w2 CA NC costs from (HC.out.le ((Qaz.below HB1.out).msk)).le (hav.kept.msk.trans (Qbt _ _)))
 have HG2:=Zh (show Qgk w2 g M from by
  obtain ⟨F',_,h⟩:=hav.gr;exact h.rd)
 clear hav HAP HT1 HO HC HG;obtain ⟨w3,hw3⟩:∃ W,W=w2.alloc (.cells (Qba (.int .i64 0) NC) 2):=⟨_,rfl⟩;have hb3:Below w2.heap.size w2 w3:=by rw [hw3];exact Qae
 have hB3:Blk w3 w2.heap.size 2 (Qad (List.replicate NC 0)).toArray:=by rw [hw3,show (Qad (List.replicate NC 0)).toArray=Qba (.int .i64 0) NC by simp [Qad,Qba]];exact Blk.new _ _ _
 have HW3:=Zh hw3;have HC3:=Zh (HC2.out.below hb3);have hcl:costs.length=NC:=HC2.out.1;have HCL0:=Zh hcl;clear hw3 hcl
 go_wp2_with (rw [←HW3.out];with_reducible refine Qmx rfl (.tmp 50) (.tmp 51) rfl CA (some ⟨w2.heap.size,0,none⟩) NC cC NC NC w2.heap.size 0 (List.replicate NC 0) costs rfl rfl (Zn _) (fun _=>rfl) hB3 HC3.out (by simp) ?_)
 clear hmk;have hcl:=HCL0.out;obtain ⟨B,hBe⟩:∃ B,B=w2.heap.size:=⟨_,rfl⟩;have HBE:=Zh hBe;rw [←hBe] at hB3 hb3 ⊢;clear hBe;intro w4 hB4 hb4
 have hB4:Blk w4 B 2 (Qad costs).toArray:=by
  have e:splice (List.replicate NC 0) 0 costs=costs:=by simp [splice,hcl]
  rw [e] at hB4;exact hB4
 have hb24:Below B w2 w4:=hb3.trans hb4;clear hB3 hb3 hb4 HC3
 go_wp2_with fail
 go_loopw [15,55] (fun z q V=>Below B w2 V∧∃ (i k:Nat) (cl:List Int),i≤L∧q=.int .i64 i∧z=.int .i64 k∧k≤5000*i∧k=Qsv ((tb ls (Qcz N ls l)).take i)∧Blk V B 2 (Qad cl).toArray∧cl.length=NC∧Qhf cl∧Qdg M ls i 0 cl∧Qgm N M ls i 0 cl) (fun _ q _=>L-(intOf q).toNat)
 case atStart=>exact ⟨hb24,0,0,costs,Nat.zero_le _,rfl,rfl,by omega,by simp [Qsv],hB4,hcl,HAL.out.cost HOK.out,Qdg.start _ _ _,Qgm.start HKIN.out HAL.out⟩
 case round =>
  clear hb24 hB4;obtain ⟨hbl,i,k,cl,hi,rfl,rfl,hk5,hk,hB,hcl2,hco,hdo,hre⟩:=hrel
  by_cases hlt:i<L
  rotate_left
  · obtain rfl:i=L:=by omega
    have i1:¬((i:Int)<(i:Int)):=by omega
    have HK:=Zh hk;have HB4:=Zh hB
    have HD:=Zh (show Qfe (Qef N l) ls cl by
     rw [←HM.out];exact Qdg.all (by rw [←HLE.out];exact hdo) (by rw [hcl2];exact HNM.out))
    clear hk hB hdo hre hco
    go_wp2_with fail
    refine bodyPost_ret (v:=.tuple #[.slice (some ⟨B,0,none⟩) NC NC,.int .i64 k,.nilIface]) (by simp [results,results19,go_sem]) rfl ?_;obtain ⟨F',hF',hGr⟩:=HAV.out.gr;have hbl2:Below w2.heap.size w2 wr:=by rw [←HBE.out];exact hbl
    have hz1:=HB1.out.size;have hz2:=HAV.out.size;refine ⟨B,cl,F',?_,by rw [HBE.out];omega,HB4.out,HD.out,fun b hb=>⟨?_,?_⟩,by rw [←HM.out];exact hGr.below hbl2,?_,by have:=hbl2.size;omega,fun Bd h1 h2=>?_⟩
    · rw [←HNC.out,HK.out,List.take_of_length_le (by rw [Qia,←HLE.out];exact Zn _)]
    · rcases hF' b hb with h|h
      · exact .inl h
      · exact .inr (by omega)
    · rw [HBE.out]
      exact hGr.lt hb
    · exact ((Qaz.below HB1.out).trans HAV.out.kept hz1).trans (Qaz.below hbl2) (by omega)
    · exact ((HB1.out.mono h1).trans (HAV.out.bel Bd (by omega) h2)).trans (hbl2.mono (by omega))
  obtain ⟨r0,hr0⟩:∃ r0,ls[i]?=some r0:=⟨_,Zg (by rw [←HLE.out];exact hlt)⟩;obtain ⟨Mi,hMi⟩:∃ Mi,Mi=(Qam r0).toNat:=⟨_,rfl⟩;have hlo:=HMP.out.lvl r0 (Zm hr0)
  have hMb:Mi≤4096:=by
   have h2:=Qcd (l:=r0) (n:=(M.vs.length:Int)) (fun x hx=>hlo.hi x hx) (by omega);have h3:=HMOK.out.lv;omega
  have hTr:=HT2.out.below (show Below w2.heap.size w2 wr by rw [←HBE.out];exact hbl)
  obtain ⟨bi,hbi,hcs,hbk,hBb,hbT⟩:=hTr.get (Qey (f:=Qcz N ls l) hr0);have hcc:=hTr.cell hcs;rw [List.length_map,List.length_range,←hMi] at hcc
  have hbil:bi<w2.heap.size:=by
   obtain ⟨bi',hbi',_,hbk',_⟩:=HT2.out.get (Qey (f:=Qcz N ls l) hr0);rw [hbi] at hbi'
   cases hbi'
   exact hbk'.lt
  have hbk2:Blk w2 bi 4 (Qdh ((List.range (Qam r0).toNat).map (Qcz N ls l i))):=by
   obtain ⟨bi',hbi',_,hbk',_⟩:=HT2.out.get (Qey (f:=Qcz N ls l) hr0);rw [hbi] at hbi'
   cases hbi'
   exact hbk'
  have HBK:=Zh hbk2;have HR0:=Zh hr0;have HLO:=Zh hlo;have HK:=Zh hk;have HB4:=Zh hB;have HCL:=Zh hcl2;have HCO:=Zh hco;have HDO:=Zh hdo;have HRE:=Zh hre;have HMI:=Zh hMi;have i1:(i:Int)<(L:Int):=by omega
  have i2:(0:Int)≤(i:Int):=by omega
  clear hk hB hcl2 hco hdo hre hTr hbi hcs hbk hbk2 hr0 hlo hMi
  go_wp2_with fail
  go_loopw [15,62] (fun z q V=>Below B w2 V∧∃ (c k:Nat) (cl:List Int),c≤Mi∧q=.int .i64 c∧z=.int .i64 k∧k≤5000*i+c∧k=Qsv ((tb ls (Qcz N ls l)).take i)+howR (((List.range (Qam r0).toNat).map (Qcz N ls l i)).take c)∧Blk V B 2 (Qad cl).toArray∧cl.length=NC∧Qhf cl∧Qdg M ls i c cl∧Qgm N M ls i c cl) (fun _ q _=>Mi-(intOf q).toNat)
  case atStart=>exact ⟨hbl,0,k,cl,Nat.zero_le _,rfl,rfl,by omega,by rw [HK.out];simp [howR],HB4.out,HCL.out,HCO.out,HDO.out,HRE.out⟩
  case round =>
   clear HK HB4 HCL HCO HDO HRE hcc hbl hk5;obtain ⟨hbl,c,k,cl,hc,rfl,rfl,hk5,hk,hB,hcl2,hco,hdo,hre⟩:=hrel;have HK:=Zh hk;have HB4:=Zh hB;have HCL:=Zh hcl2;have HCO:=Zh hco;have HDO:=Zh hdo;have HRE:=Zh hre;have hbl2:Below w2.heap.size w2 wr:=by rw [←HBE.out];exact hbl
   have HBL2:=Zh hbl2;clear hk hB hcl2 hco hdo hre
   by_cases hcM:c<Mi
   rotate_left
   · obtain rfl:c=Mi:=by omega
     have j1:¬((c:Int)<(c:Int)):=by omega
     have HH:=Zh (show k=Qsv ((tb ls (Qcz N ls l)).take (i+1)) by
      rw [Qvw (Qey HR0.out),HK.out,List.take_of_length_le (l:=(List.range (Qam r0).toNat).map (Qcz N ls l i)) (by rw [List.length_map,List.length_range];have:=HMI.out;omega)])
     go_wp2_with fail
     go_roundw
     case rel=>exact ⟨hbl,i+1,k,cl,by omega,by go_num,rfl,by omega,HH.out,HB4.out,HCL.out,HCO.out,HDO.out.up HR0.out (by rw [Qan,←HMI.out];exact Zn _),HRE.out.up⟩
     case measure=>simp [intOf];omega
   have hcM2:c<(Qam r0).toNat:=by have:=HMI.out;omega
   obtain ⟨x,hx⟩:∃ x,(gateRow M.ar r0)[c]?=some x:=⟨_,Zg (by rw [Qan];exact hcM2)⟩;have HX:=Zh hx;have htc:=(HBK.out.below hbl2 HBK.out.lt).cellB (Qwx (f:=Qcz N ls l) (i:=i) r0 hcM2);have HN:=Zh (Qvt (Qwx (f:=Qcz N ls l) (i:=i) r0 hcM2));have j1:(c:Int)<(Mi:Int):=by omega
   have j2:(0:Int)≤(c:Int):=by omega
   obtain ⟨tt,htt⟩:∃ tt,tt=Qcz N ls l i c:=⟨_,rfl⟩;have HTT:=Zh htt;rw [←htt] at htc HN;clear htt hx
   cases tt with
   | false =>
    have HNT:=Zh (show ¬netT N M r0 c from fun hn=>by
     have h1:=HTT.out;unfold Qcz at h1;rw [Qfc HR0.out,(Qqc HOK.out HB.out).2 (by rw [←HM.out];exact hn)] at h1
     cases h1)
    have HD2:=Zh (HDO.out.keep HOK.out HKIN.out HRE.out HR0.out (by rw [HLO.out.len,HKIN.out.vs]) HNT.out);have HH:=Zh (show k=Qsv ((tb ls (Qcz N ls l)).take i)+howR (((List.range (Qam r0).toNat).map (Qcz N ls l i)).take (c+1)) by rw [HN.out,HK.out];simp)
    go_wp2_with fail
    go_roundw
    case rel=>exact ⟨hbl,c+1,k,cl,by omega,by go_num,rfl,by omega,HH.out,HB4.out,HCL.out,HCO.out,HD2.out,HRE.out.skip⟩
    case measure=>simp [intOf];omega
   | true =>
    have HH:=Zh (show k+1=Qsv ((tb ls (Qcz N ls l)).take i)+howR (((List.range (Qam r0).toNat).map (Qcz N ls l i)).take (c+1)) by rw [HN.out,HK.out];simp;omega)
    obtain ⟨at2,hat⟩:∃ at2,at2=Qbo ((gatesOf M.ar ls).take i)+Qde ((gateRow M.ar r0).take c):=⟨_,rfl⟩
    have hfit:at2+szG x≤NC:=by
     have e1:=Qha (gateRow M.ar r0) (c+1);have e2:=Qet (gatesOf M.ar ls) (i+1);rw [Qdc (Qbf HR0.out),←HNM.out] at e2;rw [Qcy HX.out] at e1;omega
    have HAT:=Zh hat;have HON:=Zh (one_ok wr g o i c M ls r0 x (some ⟨B,0,none⟩) NC NC cl (HG2.out.below hbl2) HMOK.out (HO2.out.below hbl2) HMP.out HR0.out HX.out (HB4.out.rdI HCL.out) (by rw [←HNM.out];exact Zn _) hNC HCO.out (fun j hj=>HDO.out.low (by omega)));clear hat
    go_wp2_with fail
    with_reducible refine HON.out.mono ?_
    rintro e w5 ⟨A5,c5,ces,rfl,hA5,hent,hb5⟩;have HA5:=Zh hA5;have HEN:=Zh hent;have hbl5:Below B w2 w5:=hbl.trans (hb5.mono (by have:=HB4.out.lt;omega));have HB5:=Zh (HB4.out.below hb5 HB4.out.lt);have HBL5:=Zh (Zb hbl2 hb5);have hk9:IntKind.i64.wrap ((k:Int)+1)=(k:Int)+1:=IntWalk.i64_in _ (by omega);clear hA5 hent hb5 HON HB4
    by_cases hsz:szG x=0
    · have hces:ces=[]:=List.eq_nil_of_length_eq_zero (by rw [HA5.out.1,hsz])
      have HATN:=Zh (at0_no o i c M.ar ls r0 x w5 (HO2.out.below HBL5.out) HR0.out HX.out hsz (by rw [←HLE.out];omega))
      have HD2:=Zh (show Qdg M ls i (c+1) cl by
       have:=HDO.out.next HR0.out HX.out (ces:=ces) (by rw [hces,hsz];rfl) (by rw [HCL.out,←HAT.out];exact hfit) HEN.out;rw [hces,Qtk] at this;exact this)
      have HR2:=Zh (HRE.out.skip);clear hces hsz
      go_wp2_with fail
      with_reducible refine HATN.out.mono ?_
      rintro e w6 ⟨rfl,hb6⟩;have HB6:=Zh (HB5.out.below hb6 HB5.out.lt);have hbl6:Below B w2 w6:=hbl5.trans (hb6.mono (by have:=HB5.out.lt;omega));clear hb6 HATN HB5
      go_wp2_with fail
      go_roundw
      case rel=>exact ⟨hbl6,c+1,k+1,cl,by omega,by go_num,by go_num,by omega,HH.out,HB6.out,HCL.out,HCO.out,HD2.out,HR2.out⟩
      case measure=>simp [intOf];omega
    have HATN:=Zh (at0_ok o i c M.ar ls r0 x w5 (HO2.out.below HBL5.out) HR0.out HX.out hsz (by rw [←HLE.out];omega) (by rw [←HNM.out];omega));rw [←HAT.out] at HATN;have HSX2:=Zh (HRE.out.next HR0.out HX.out HA5.out.1 (by rw [HCL.out,←HAT.out];exact hfit));have HD2:=Zh (HDO.out.next HR0.out HX.out HA5.out.1 (by rw [HCL.out,←HAT.out];exact hfit) HEN.out);rw [←HAT.out] at HSX2 HD2;have HCO2:=Zh (HCO.out.next HMOK.out (off:=at2) HX.out HA5.out.1 HEN.out);have hsl:=fun W=>Qnw (P:=prog) 30 2 1 underlying30 (by kernel_rfl) (by kernel_rfl) (some ⟨B,0,none⟩) NC NC at2 (NC-at2) (by omega) rfl .i64 (at2:Int) rfl W
    have j3:(0:Int)≤(at2:Int):=by omega
    have j4:(at2:Int)≤(NC:Int):=by omega
    go_wp2_with fail
    with_reducible refine HATN.out.mono ?_
    rintro e w6 ⟨rfl,hb6⟩;have HB6:=Zh (HB5.out.below hb6 HB5.out.lt);have HA6:=Zh (HA5.out.below hb6);have hbl6:Below B w2 w6:=hbl5.trans (hb6.mono (by have:=HB5.out.lt;omega));clear hb6 HATN HB5
    go_wp2_with (with_reducible refine Qmx rfl (.tmp 93) (.tmp 94) rfl A5 (cutA 1 (some ⟨B,0,none⟩) at2 NC) (szG x) c5 (NC-at2) (NC-at2) B at2 cl ces rfl rfl (by omega) (fun _=>by unfold cutA;rw [if_neg (by omega)];by_cases h0:at2=0 <;> simp [Addr.add,h0]) HB6.out HA6.out (by rw [HCL.out];exact hfit) ?_)
    intro w7 hB7 hb7;have HB7:=Zh hB7;have hbl7:Below B w2 w7:=hbl6.trans hb7;clear hB7 hb7 hsl
    go_wp2_with fail
    go_roundw
    case rel=>exact ⟨hbl7,c+1,k+1,splice cl at2 ces,by omega,by go_num,by go_num,by omega,HH.out,HB7.out,by rw [length_splice _ _ _ (by rw [HA5.out.1,HCL.out];exact hfit)];exact HCL.out,HCO2.out,HD2.out,HSX2.out⟩
    case measure=>simp [intOf];omega
theorem infoCh:(Tryz.prog.info? 83).map (fun i=>(i.zero,i.size,i.bytes))=some (some (.agg #[.int .i64 0,.int .i64 0,.int .i64 0,.int .i64 0,.int .i64 0]),5,40):=by kernel_rfl
set_option maxHeartbeats 2000000 in
theorem Qqx (A:Option Addr)(n c:Nat)(l:List Chn)(w:World)(h:Qiu w A n l)(hn:n≤1000000) :
 Calls prog 20 #[.slice A n c] w fun r w'=>∃ A' c',r=.returned (.slice A' n c')∧Own w' w.heap.size 83 5 A' n c' (Qbi l)∧Below w.heap.size w w':=by
 have HL:=Zh h;have HN:=Zh h.1;clear h
 go_enter func20,ntmps20
 go_wp2_with fail
 go_loopw [3,4] (fun z q V=>Below w.heap.size w V∧∃ (i:Nat) (A':Option Addr) (cp:Nat),i≤n∧q=.int .i64 i∧z=.slice A' i cp∧Own V w.heap.size 83 5 A' i cp (Qbi (l.take i))) (fun _ q _=>n-(intOf q).toNat)
 case atStart=>exact ⟨Zr _ _,0,none,0,Nat.zero_le _,rfl,rfl,Own.nil _ _ _ _⟩
 case round =>
  obtain ⟨hbl,i,A',cp,hi,rfl,rfl,hown⟩:=hrel;have HO:=Zh hown;have HBL:=Zh hbl;clear hown
  by_cases hlt:i<n
  rotate_left
  · obtain rfl:i=n:=by omega
    have i3:¬((i:Int)<(i:Int)):=by omega
    go_wp2_with fail
    go_ret
    refine ⟨A',cp,rfl,?_,hbl⟩;have:=HO.out;rw [List.take_of_length_le (by rw [HN.out];exact Zn _)] at this;exact this
  obtain ⟨lb,lo,x,y,z,u,v,rfl,hc,c1,c2,c3,c4,c5⟩:=HL.out.at_ hlt;have HQ:=Zh (Qpy hc);simp only at HQ
  have HSX:=Zh (show ∀ V,Below w.heap.size w V→V.cell? ⟨lb,lo+i*5,none⟩=some (.int .i64 x)∧V.cell? ⟨lb,lo+i*5+1,none⟩=some (.int .i64 y)∧V.cell? ⟨lb,lo+i*5+2,none⟩=some (.int .i64 z)∧V.cell? ⟨lb,lo+i*5+3,none⟩=some (.int .i64 u)∧V.cell? ⟨lb,lo+i*5+4,none⟩=some (.int .i64 v) from
   fun V hV=>⟨Zc hV (Zn _) c1,Zc hV (Zn _) c2,Zc hV (Zn _) c3,Zc hV (Zn _) c4,Zc hV (Zn _) c5⟩)
  have i1:(i:Int)<(n:Int):=by omega
  have i2:(0:Int)≤(i:Int):=by omega
  clear hc c1 c2 c3 c4 c5 hbl
  go_wp2_with fail
  refine wp_region_held_drew (S:=fun V=>Below w.heap.size w V) (by kernel_rfl) HBL.out.drew (fun _=>?_);refine tz 0 11 ?_;refine tz 1 12 ?_;refine tz 2 13 ?_;refine tz 3 14 ?_;refine tz 4 15 ?_;refine tz 5 16 ?_;refine tz 6 17 ?_;refine tz 7 18 ?_;refine tz 8 19 ?_;refine tz 9 20 ?_;refine tz 10 21 ?_;refine tz 11 22 ?_;refine tz 12 23 ?_;refine tz 13 24 ?_;refine tz 14 25 ?_;refine tz 15 26 ?_;refine tz 16 27 ?_;refine tz 17 28 ?_;refine tz 18 29 ?_;refine tz 19 30 ?_;refine tz 20 31 ?_;refine tz 21 32 ?_;refine tz 22 33 ?_;refine tz 23 34 ?_;refine tz 24 35 ?_;refine tz 25 36 ?_;refine tz 26 37 ?_;refine Zk 27 (fun K hK=>?_);go_simp;refine hK.out _ _ (Zb HBL.out Qae) (fun _=>?_);clear hK K;obtain ⟨W5,hW5⟩:∃ W5,W5=(wr.alloc (.cells #[.int .i64 x,.int .i64 y,.int .i64 z,.int .i64 u,.int .i64 v] 83)).drew:=⟨_,rfl⟩;rw [←hW5];have hb5:Below wr.heap.size wr W5:=by rw [hW5];exact Qae
  have hrd:Rds W5 5 (some ⟨wr.heap.size,0,none⟩) 1 [.int .i64 x,.int .i64 y,.int .i64 z,.int .i64 u,.int .i64 v]:=by rw [hW5];exact (Blk.new wr 83 #[.int .i64 x,.int .i64 y,.int .i64 z,.int .i64 u,.int .i64 v]).drew.rds rfl
  have hone:∀ e∈[Value.int .i64 x,.int .i64 y,.int .i64 z,.int .i64 u,.int .i64 v],e.oneCell'=true:=Qkl [(x,y,z,u,v)];have hown:=HO.out.below hb5;have HB5:=Zh (Zb HBL.out hb5);have hsz:w.heap.size≤W5.heap.size:=HB5.out.size;clear hW5 hb5;refine Zk 28 (fun K hK=>?_);with_reducible refine Qai (some 39) rfl rfl (.tmp 11) (.tmp 38) 60 rfl 83 _ 5 40 infoCh underlying60 rfl (by omega) rfl rfl hown hrd hone (by omega) (by omega) hsz ?_
  intro A3 c3 w8 ho8 hg8 hat8;have hb8:=Bel.grownOwn HB5.out hg8 hown hsz;refine hK.out _ _ hb8 (fun _=>?_);clear hK K;simp only [Act.put,List.setIfInBounds_toArray,List.set_cons_zero,List.set_cons_succ];refine tz 29 3 ?_;refine Zd ?_;have HB8:=Zh hb8;have HO8:=Zh (show Own w8 w.heap.size 83 5 A3 (i+1) c3 (Qbi (l.take (i+1))) by rw [HQ.out];exact ho8)
  clear hown hrd hsz ho8 hg8 hat8 hb8 HSX
  go_wp2_with fail
  go_roundw
  case rel=>exact ⟨HB8.out,i+1,A3,c3,by omega,by go_num,rfl,HO8.out⟩
  case measure=>simp [intOf];omega
theorem Own.rdCm {W:World}{B n c:Nat}{A:Option Addr}{l:List Chn}{G:Nat→Prop} (h:Own W B 83 5 A n c (Qbi l)) (hG:∀ b,B≤b→b<W.heap.size→G b):Qiu (msk W G) A n l :=
 ⟨h.rds.rdC.1,fun i x hx=>by
  obtain ⟨b,o,e,h1,h2,h3,h4,h5⟩:=h.rds.rdC.2 i x hx;have hb:=h.lt b (by rw [e];rfl);exact ⟨b,o,e,Qar.2 ⟨hG b hb.1 hb.2,h1⟩,Qar.2 ⟨hG b hb.1 hb.2,h2⟩,Qar.2 ⟨hG b hb.1 hb.2,h3⟩,Qar.2 ⟨hG b hb.1 hb.2,h4⟩,Qar.2 ⟨hG b hb.1 hb.2,h5⟩⟩⟩
structure GO (W:World) (F G:Nat→Prop) (g o:Nat) (N:Qaj) (ls:List (List Int)):Prop where
 gr:GrO W F g N
 ov:Qex (msk W G) o N.ar ls
 dis:∀ b,G b→¬F b
 lt:∀ b,G b→b<W.heap.size
theorem GO.below {W W':World}{F G:Nat→Prop}{g o:Nat}{N:Qaj} {ls:List (List Int)} (h:GO W F G g o N ls) (hb:Below W.heap.size W W'):GO W' F G g o N ls :=
 ⟨h.gr.below hb,h.ov.le (Qaz.below hb).msk,h.dis,fun b hb'=>Nat.lt_of_lt_of_le (h.lt b hb') hb.size⟩
theorem GO.ovF {W:World}{F G:Nat→Prop}{g o:Nat}{N:Qaj} {ls:List (List Int)} (h:GO W F G g o N ls):Qex (msk W (fun b=>¬F b)) o N.ar ls:=h.ov.le (Qbn (fun b hb=>h.dis b hb))
theorem GO.ovR {W:World}{F G:Nat→Prop}{g o:Nat}{N:Qaj} {ls:List (List Int)} (h:GO W F G g o N ls):Qex W o N.ar ls:=h.ov.le (Qbt _ _)
def Qkd (M:Nat)(f:Nat→Bool)(c:Nat):List Bool:=(List.range M).map (fun q=>decide (q<c) && f q)
theorem Qhc (M:Nat)(f:Nat→Bool)(c:Nat):(Qkd M f c).length=M:=by simp [Qkd]
theorem Qis {M q:Nat}(f:Nat→Bool)(c:Nat)(hq:q<M):(Qkd M f c)[q]?=some (decide (q<c) && f q):=by
 unfold Qkd;rw [List.getElem?_map,List.getElem?_range hq]
 rfl
theorem Qut (M:Nat)(f:Nat→Bool):Qkd M f 0=List.replicate M false:=by
 apply List.ext_getElem?
 intro q
 by_cases hq:q<M
 · rw [Qis f 0 hq,List.getElem?_replicate,if_pos hq]
   simp
 · rw [List.getElem?_eq_none (by rw [Qhc];omega),List.getElem?_eq_none (by simp;omega)]
theorem fstR_all (M:Nat)(f:Nat→Bool):Qkd M f M=(List.range M).map f:=by
 unfold Qkd;refine List.map_congr_left (fun q hq=>?_);rw [decide_eq_true (List.mem_range.1 hq),Bool.true_and]
theorem Qvc {M:Nat}{f:Nat→Bool}{c:Nat}(h:f c=false):Qkd M f (c+1)=Qkd M f c:=by
 unfold Qkd;refine List.map_congr_left (fun q hq=>?_)
 by_cases e:q=c
 · subst e
   rw [h,Bool.and_false,Bool.and_false]
 · congr 1
   exact decide_eq_decide.2 (by omega)
theorem fstR_yes {M:Nat}{f:Nat→Bool}{c:Nat}(hc:c<M)(h:f c=true):Qkd M f (c+1)=(Qkd M f c).set c true:=by
 apply List.ext_getElem?
 intro q
 by_cases hq:q<M
 · rw [Qis f _ hq]
   by_cases e:c=q
   · subst e
     rw [List.getElem?_set_self (by rw [Qhc];exact hc),h];simp
   · rw [List.getElem?_set_ne e,Qis f _ hq]
     congr 2
     exact decide_eq_decide.2 (by omega)
 · rw [List.getElem?_eq_none (by rw [Qhc];omega),List.getElem?_eq_none (by rw [List.length_set,Qhc];omega)]
theorem Qrj {α:Type}(l:List α)(r s:α){i:Nat}(h:l.length=i):(l ++[r])[i]?=some r∧(l ++[r]).set i s=l ++[s]:=by
 subst h
 constructor
 · rw [List.getElem?_append_right (Zn _),Nat.sub_self]
   rfl
 · rw [List.set_append_right _ _ (Zn _),Nat.sub_self]
   rfl
set_option maxRecDepth 20000 in
set_option maxHeartbeats 8000000 in
theorem diff_ok (w:World)(o:Nat)(ar:List Tri) (ls:List (List Int)) (A B:Option Addr) (NC cA cB:Nat) (a b:List Int) (ho:Qex w o ar ls) (hA:RdI w A NC a) (hB:RdI w B NC b) (hNCe:NC=Qbo (gatesOf ar ls)) (hNC:NC≤1000000000) (hL6:ls.length≤6) (hlv:∀ l∈ls,(Qam l).toNat≤4096) (har:ar.length≤1000000) :
 Calls prog 12 #[.pointer (some ⟨o,0,none⟩),.slice A NC cA,.slice B NC cB] w (TlP w ls.length (tb ls (difI ar ls a b))):=by
 have HSZ:=Zh (Qgw o ar ls w ho);have HLV:=Zh (Qgg o ar ls w ho);have HO:=Zh ho;have HA:=Zh hA;have HB:=Zh hB;have HMO:=Zh hlv;have HNC:=Zh hNCe;rw [←hNCe] at HSZ;obtain ⟨L,hLe⟩:∃ L,L=ls.length:=⟨_,rfl⟩;rw [←hLe] at HLV hL6 ⊢;have HLE:=Zh hLe;obtain ⟨F,hF⟩:∃ F,F=difI ar ls a b:=⟨_,rfl⟩;have HF:=Zh hF;rw [←hF];have hmkQ:=Qnv L (by omega);clear ho hA hB hlv hNCe hLe hF
 go_enter func12,ntmps12
 go_wp2_with fail
 with_reducible refine HSZ.out.mono ?_
 rintro e w' ⟨rfl,rfl⟩
 go_wp2_with fail
 with_reducible refine HLV.out.mono ?_
 rintro e w' ⟨rfl,rfl⟩
 go_wp2_with fail
 (refine Qah ?_;intro w2 hw2)
 have hb2:Below w.heap.size w w2:=by rw [hw2];exact Qae
 have hT2:TlW w2 w.heap.size w.heap.size (List.replicate L (.slice none 0 0)) [] []:=by
  rw [hw2];refine TlW.start ?_ (Zn _);have e:Qba (.slice none 0 0) L=(List.replicate L (Value.slice none 0 0)).toArray:=by simp [Qba]
  rw [e];exact Blk.new _ _ _
 obtain ⟨T,hTe⟩:∃ T,T=w.heap.size:=⟨_,rfl⟩;have HTE:=Zh hTe;rw [←hTe] at hT2 hb2 ⊢;clear hw2 hmkQ HLV HSZ hTe
 go_loopw [38] (fun q V=>Below T w V∧∃ (i:Nat) (cs:List Value) (bs:List Nat),i≤L∧q=.int .i64 i∧cs.length=L∧TlW V T T cs bs ((tb ls F).take i)) (fun q _=>L-(intOf q).toNat)
 case atStart=>exact ⟨hb2,0,List.replicate L (.slice none 0 0),[],Nat.zero_le _,rfl,by simp,by simpa using hT2⟩
 case round =>
  clear hb2 hT2;obtain ⟨hbl,i,cs,bs,hi,rfl,hcl,hT⟩:=hrel
  by_cases hlt:i<L
  rotate_left
  · obtain rfl:i=L:=by omega
    have i3:¬((i:Int)<(i:Int)):=by omega
    rw [List.take_of_length_le (by rw [Qia,←HLE.out];exact Zn _)] at hT;have HT:=Zh hT;clear hT hcl
    go_wp2_with fail
    refine bodyPost_ret (v:=.tuple #[.slice (some ⟨T,0,none⟩) i i,.nilIface]) (by simp [results,results12,go_sem]) rfl ?_;exact ⟨T,cs,bs,rfl,by rw [←HTE.out];exact HT.out,by rw [←HTE.out];exact hbl⟩
  have hbw:Below w.heap.size w wr:=by rw [←HTE.out];exact hbl
  obtain ⟨r0,hr0⟩:∃ r0,ls[i]?=some r0:=⟨_,Zg (by rw [←HLE.out];exact hlt)⟩;have hM4:=HMO.out r0 (Zm hr0);obtain ⟨M,hM⟩:∃ M,M=(Qam r0).toNat:=⟨_,rfl⟩;rw [←hM] at hM4;have HR0:=Zh hr0;have HMM:=Zh hM;have HCE:=Zh (Qfg o i M ar ls r0 wr (HO.out.below hbw) hr0 (by rw [←HLE.out];omega) hM.symm);have hmk:=Qju M (by omega);have hrl:((tb ls F).take i).length=i:=by rw [List.length_take,Qia,←HLE.out];omega
  have HRL:=Zh hrl;have hpush:=hT.push (M:=M) (by rw [hrl,hcl];exact hlt);rw [hrl,←Qut M (F i)] at hpush;have HPU:=Zh hpush;have hld:=hpush.cell (i:=i) (List.getElem?_set_self (by rw [hcl];exact hlt));have HCL:=Zh hcl;have hTl:=hT.box.lt;have hTf:=hT.box.frozen i;have hcc:wr.cell? ⟨T,i,none⟩=cs[i]?:=by rw [hT.box.cell];simp
  obtain ⟨u0,hu0⟩:∃ u,cs[i]?=some u:=⟨_,Zg (by rw [hcl];exact hlt)⟩;rw [hu0] at hcc
  have HTN:=Zh (show (tb ls F).take (i+1)=(tb ls F).take i ++[Qkd M (F i) M] by
   have h1:=Qey (f:=F) hr0;rw [List.take_succ_eq_append_getElem (Zs h1).1,(Zs h1).2,fstR_all,hM])
  have i3:(i:Int)<(L:Int):=by omega
  have i4:(0:Int)≤(i:Int):=by omega
  clear hr0 hM hpush hT hu0 hcl hrl
  go_wp2_with fail
  with_reducible refine HCE.out.mono ?_
  rintro e w' ⟨rfl,rfl⟩
  go_wp2_with fail
  (refine Qah ?_;intro w2 hw2)
  have hT2:TlW w2 T T (cs.set i (.slice (some ⟨wr.heap.size,0,none⟩) M M)) (bs ++[wr.heap.size]) ((tb ls F).take i ++[Qkd M (F i) 0]):=by rw [hw2];exact HPU.out
  have hb2:Below T w w2:=by
   rw [hw2];exact (hbl.setCell (Zn T) _).alloc (by simp only [World.size_setCell];omega) _
  have HC2:=Zh (show (cs.set i (.slice (some ⟨wr.heap.size,0,none⟩) M M)).length=L by rw [List.length_set];exact HCL.out)
  have HD2:=Zh (show (cs.set i (.slice (some ⟨wr.heap.size,0,none⟩) M M))[i]?=some (.slice (some ⟨wr.heap.size,0,none⟩) M M) from List.getElem?_set_self (by rw [HCL.out];exact hlt))
  have HE2:=Zh (show (bs ++[wr.heap.size])[i]?=some wr.heap.size by
   have h1:=hT2.n;rw [List.length_append,List.length_append,HRL.out] at h1;simp only [List.length_cons,List.length_nil] at h1;exact (Qrj bs wr.heap.size 0 (by omega)).1)
  generalize cs.set i (.slice (some ⟨wr.heap.size,0,none⟩) M M)=cs2 at *;generalize bs ++[wr.heap.size]=bs2 at *;generalize wr.heap.size=rb at *;clear hw2 hmk HPU HCE hld hTl hTf hcc HCL hbl hbw
  go_loopw [54] (fun q V=>Below T w V∧∃ c:Nat,c≤M∧q=.int .i64 c∧TlW V T T cs2 bs2 ((tb ls F).take i ++[Qkd M (F i) c])) (fun q _=>M-(intOf q).toNat)
  case atStart=>exact ⟨hb2,0,Nat.zero_le _,rfl,hT2⟩
  case round =>
   clear hb2 hT2;obtain ⟨hbl,c,hc,rfl,hT⟩:=hrel
   by_cases hcM:c<M
   rotate_left
   · obtain rfl:c=M:=by omega
     have j1:¬((c:Int)<(c:Int)):=by omega
     rw [←HTN.out] at hT;have HT:=Zh hT;clear hT
     go_wp2_with fail
     go_roundw
     case rel=>exact ⟨hbl,i+1,cs2,bs2,by omega,by go_num,HC2.out,HT.out⟩
     case measure=>simp [intOf];omega
   have hbw:Below w.heap.size w wr:=by rw [←HTE.out];exact hbl
   have HT:=Zh hT;have HBW:=Zh hbw;obtain ⟨x,hx⟩:∃ x,(gateRow ar r0)[c]?=some x:=⟨_,Zg (by rw [Qan,←HMM.out];exact hcM)⟩;have HX:=Zh hx;have HSZ:=Zh (show Qvr ar ls i c=szG x by unfold Qvr;rw [Qfc HR0.out,List.getD_eq_getElem?_getD,hx];rfl)
   obtain ⟨at2,hat⟩:∃ at2,at2=Qqg ar ls i c:=⟨_,rfl⟩;have HAT:=Zh hat
   have hfit:at2+szG x≤NC:=by
    have e1:=Qha (gateRow ar r0) (c+1);have e2:=Qet (gatesOf ar ls) (i+1);rw [Qdc (Qbf HR0.out),←HNC.out] at e2;rw [Qcy hx] at e1;rw [hat];unfold Qqg;rw [Qfc HR0.out];omega
   have HFI:=Zh (show F i c=Qwz a b at2 (szG x) by rw [HF.out];unfold difI;rw [HSZ.out,←hat])
   have j1:(c:Int)<(M:Int):=by omega
   have j2:(0:Int)≤(c:Int):=by omega
   clear hT hx hat
   by_cases hs0:szG x=0
   · have HNO:=Zh (show TlW wr T T cs2 bs2 ((tb ls F).take i ++[Qkd M (F i) (c+1)]) by
      rw [Qvc (by rw [HFI.out,hs0];rfl)];exact HT.out)
     have HATN:=Zh (at0_no o i c ar ls r0 x wr (HO.out.below hbw) HR0.out HX.out hs0 (by rw [←HLE.out];omega));clear hbw hs0 HT
     go_wp2_with fail
     with_reducible refine HATN.out.mono ?_
     rintro e w3 ⟨rfl,hb3⟩;have HT3:=Zh (HNO.out.below hb3);have hbl3:Below T w w3:=hbl.trans (hb3.mono (by have:=HNO.out.box.lt;omega));clear hb3 HATN HNO
     go_wp2_with fail
     go_roundw
     case rel=>exact ⟨hbl3,c+1,by omega,by go_num,HT3.out⟩
     case measure=>simp [intOf];omega
   have HATN:=Zh (at0_ok o i c ar ls r0 x wr (HO.out.below hbw) HR0.out HX.out hs0 (by rw [←HLE.out];omega) (by rw [←HNC.out];omega))
   have he0:Qbo ((gatesOf ar ls).take i)+Qde ((gateRow ar r0).take c)=at2:=by
    rw [HAT.out];unfold Qqg;rw [Qfc HR0.out]
   rw [he0] at HATN;obtain ⟨SZ,hSZ⟩:∃ SZ,SZ=szG x:=⟨_,rfl⟩;have HSE:=Zh hSZ;rw [←hSZ] at hfit hs0 HFI;have j3:(0:Int)≤(at2:Int):=by omega
   clear he0 hSZ hbw
   go_wp2_with fail
   with_reducible refine HATN.out.mono ?_
   rintro e w3 ⟨rfl,hb3⟩;have HT3:=Zh (HT.out.below hb3);have hbl3:Below T w w3:=hbl.trans (hb3.mono (by have:=HT.out.box.lt;omega));have HBW3:=Zh (Zb HBW.out hb3);have HGT:=Zh (oGate_ok o i c ar ls r0 x w3 (HO.out.below HBW3.out) HR0.out (by rw [←HLE.out];omega) HX.out har);clear hb3 HATN HT hbl
   go_wp2_with fail
   with_reducible refine HGT.out.mono ?_
   rintro e w4 ⟨A1,n1,c1,A2,n2,c2,rfl,hr1,hr2,hb4⟩
   have hmul:(n1:Int)*(n2:Int)=(SZ:Int):=by
    rw [HSE.out];unfold szG;rw [hr1.1,hr2.1];simp
   have HT4:=Zh (HT3.out.below hb4);have hbl4:Below T w w4:=hbl3.trans (hb4.mono (by have:=HT3.out.box.lt;omega));have hwz:IntKind.i64.wrap (SZ:Int)=(SZ:Int):=IntWalk.i64_in _ (by omega);clear hb4 HGT HT3 hbl3 hr1 hr2
   go_wp2_with fail
   (refine Qah ?_;intro w5 hw5)
   have hb5:Below w4.heap.size w4 w5:=by rw [hw5];exact Qae
   have HT5:=Zh (HT4.out.below hb5);have hbl5:Below T w w5:=hbl4.trans (hb5.mono (by have:=HT4.out.box.lt;omega));clear hw5 hb5 HT4 hbl4
   go_loopw [76] (fun q V=>Below T w V∧TlW V T T cs2 bs2 ((tb ls F).take i ++[Qkd M (F i) c])∧∃ k:Nat,k≤SZ∧q=.int .i64 k∧Qwz a b at2 k=false) (fun q _=>SZ-(intOf q).toNat)
   case atStart=>exact ⟨hbl5,HT5.out,0,Nat.zero_le _,rfl,rfl⟩
   case round =>
    clear hbl5 HT5;obtain ⟨hbl,hT,k,hk,rfl,hdk⟩:=hrel;have HT:=Zh hT;have HDK:=Zh hdk;clear hT hdk
    by_cases hkS:k<SZ
    rotate_left
    · obtain rfl:k=SZ:=by omega
      have k1:¬((k:Int)<(k:Int)):=by omega
      have HNO:=Zh (show TlW wr T T cs2 bs2 ((tb ls F).take i ++[Qkd M (F i) (c+1)]) by
       rw [Qvc (by rw [HFI.out];exact HDK.out)];exact HT.out)
      clear HT
      go_wp2_with fail
      go_roundw
      case rel=>exact ⟨hbl,c+1,by omega,by go_num,HNO.out⟩
      case measure=>simp [intOf];omega
    have hbw:Below w.heap.size w wr:=by rw [←HTE.out];exact hbl
    obtain ⟨ab,ao,y,rfl,hy,cy⟩:=(HA.out.below hbw).at_ (show at2+k<NC by omega)
    obtain ⟨bb,bo,z,rfl,hz,cz⟩:=(HB.out.below hbw).at_ (show at2+k<NC by omega)
    have HY:=Zh hy;have HZ:=Zh hz;obtain ⟨K,hK⟩:∃ K,K=at2+k:=⟨_,rfl⟩;rw [←hK] at cy cz;have k1:(k:Int)<(SZ:Int):=by omega
    have k2:IntKind.i64.wrap ((at2:Int)+(k:Int))=(K:Int):=by rw [IntWalk.i64_in _ (by omega)];omega
    have k2':(at2:Int)+(k:Int)=(K:Int):=by omega
    have k3:(0:Int)≤(K:Int):=by omega
    have k4:(K:Int)<(NC:Int):=by omega
    have HKE:=Zh hK
    have HDN:=Zh (show Qwz a b at2 (k+1)=(y != z) by
     rw [Quj,HDK.out,List.getD_eq_getElem?_getD,List.getD_eq_getElem?_getD,hy,hz];simp)
    clear hy hz hK hbw
    by_cases hyz:y=z
    · have HD2:=Zh (show Qwz a b at2 (k+1)=false by rw [HDN.out];simp [hyz])
      subst hyz
      go_wp2_with fail
      go_quiet (fail)
      go_wp2_with fail
      go_roundw
      case rel=>exact ⟨Qae,HT.out.below Qae,k+1,by omega,by go_num,HD2.out⟩
      case measure=>simp [intOf];omega
    · have e1:(y != z)=true:=by simpa using hyz
      have e2:(y == z)=false:=by simpa using hyz
      have HFT:=Zh (show F i c=true by
       rw [HFI.out]
       cases hd:Qwz a b at2 SZ with
       | true=>rfl
       | false =>
        have h1:=Qhv.1 hd k hkS;have h2:=HDN.out;rw [e1] at h2;rw [Qhv.2 (fun j hj=>Qhv.1 hd j (by omega))] at h2
        cases h2)
      have HSL:=Zh (Qrj ((tb ls F).take i) (Qkd M (F i) c) ((Qkd M (F i) c).set c true) HRL.out);obtain ⟨rb2,hrb,hcs,hbk,hBb,hbT⟩:=HT.out.get HSL.out.1;have hcc:=HT.out.cell hcs;rw [Qhc] at hcc;have hfr:=hbk.frozen c;have hcb:=hbk.cellB (Qis (F i) c hcM);have HRB:=Zh hrb;clear hyz hrb hcs hbk
      go_wp2_with fail
      go_quiet (fail)
      have HY:=Zh (show TlW ((wr.drewN nq).setCell ⟨rb2,c,none⟩ (.bool true)) T T cs2 bs2 ((tb ls F).take i ++[Qkd M (F i) (c+1)]) by
       rw [fstR_yes hcM HFT.out,←HSL.out.2];exact (HT.out.below (Qae)).mark HRB.out HSL.out.1 true)
      have hb9:Below T w ((wr.drewN nq).setCell ⟨rb2,c,none⟩ (.bool true)):=Below.setCell (Qae) (by omega) _;clear HT
      go_wp2_with fail
      go_roundw
      case rel=>exact ⟨hb9,c+1,by omega,by go_num,HY.out⟩
      case measure=>simp [intOf];omega
end Go.Proofs.YthoagdpakddbdaaGreatDoor
