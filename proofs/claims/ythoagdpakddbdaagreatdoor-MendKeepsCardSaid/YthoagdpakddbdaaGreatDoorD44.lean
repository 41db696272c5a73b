/- For every input MendKeeps returns true, and its arguments read afterwards as before; package errors' variable errorType tied to the program's text. No condition. -/
import Derived.Test.YthoagdpakddbdaaGreatDoorD1
import Derived.Test.YthoagdpakddbdaaGreatDoorD23
import Derived.Test.YthoagdpakddbdaaGreatDoorD28
import Derived.Test.YthoagdpakddbdaaGreatDoorD36
import Derived.Test.YthoagdpakddbdaaGreatDoorD40
import Derived.Test.YthoagdpakddbdaaGreatDoorD41
namespace Go.Proofs.YthoagdpakddbdaaGreatDoor
open Go.RowKit Go.Proofs.Tryz
attribute [local go_sem ↓] Go.wp_at_zero Go.wp_at_succ
set_option maxHeartbeats 1000000 in
theorem right_ok (w:World)(g o:Nat)(N:Qaj) (ls:List (List Int)) (hg:Qgp w g N) (hok:Qau N) (ho:Qez w o N.ar ls) (hP:Qcg N.vs.length ls) (hNC:Qbf (gatesOf N.ar ls)≤1000000000) (A:Option Addr) (n c:Nat) (l want:List Int) (hl:RdI w A n l) (hn:n≤1000000000) (hw:Qds N ls want) :
 Calls prog 29 #[.pointer (some ⟨g,0,none⟩),.pointer (some ⟨o,0,none⟩),.slice A n c] w fun e w'=>e=.returned (.bool (decide (l=want)))∧Below w.heap.size w w':=by
 have HSZ:=Zh (Qdu o N.ar ls w ho);have HAL:=Zh (all_ok w g o N ls hg hok ho hP hNC);have HR:=Zh hl;have HW:=Zh hw;obtain ⟨NC,hNCe⟩:∃ NC,NC=Qbf (gatesOf N.ar ls):=⟨_,rfl⟩;rw [←hNCe] at HSZ hNC;have HNC:=Zh hNCe;clear hg ho hP hl hw hNCe
 by_cases hnn:n=NC
 · have e1:((n:Int) == (NC:Int))=true:=by simp;omega
   have HE:=Zh hnn;clear hnn
   go_enter func29,ntmps29
   go_wp2_with fail
   with_reducible refine HSZ.out.mono ?_
   rintro e w' ⟨rfl,rfl⟩
   go_wp2_with fail
   with_reducible refine HAL.out.mono ?_
   rintro e w2 ⟨B,cl,rfl,hB,hblk,hcl,_,hdo,hb2⟩;have HALL:=Zh (hdo.all hcl);have HEQ:=Zh (Qrh A (some ⟨B,0,none⟩) n (Qbf (gatesOf N.ar ls)) c (Qbf (gatesOf N.ar ls)) l cl w2 (HR.out.below hb2) (hblk.rdI hcl) hn (by rw [←HNC.out];exact hNC));clear hB hblk hcl hdo HAL HSZ
   go_wp2_with fail
   with_reducible refine HEQ.out.mono ?_
   rintro e w3 ⟨rfl,kk,rfl⟩;rw [HALL.out.uniq HW.out]
   go_wp2_with fail
   go_ret
   exact ⟨rfl,Qae⟩
 · have e1:((n:Int) == (NC:Int))=false:=by simp;omega
   have HE:=Zh (show decide (l=want)=false from decide_eq_false (fun e=>hnn (by rw [←HR.out.1,e,HW.out.len,HNC.out])))
   clear hnn
   go_enter func29,ntmps29
   go_wp2_with fail
   with_reducible refine HSZ.out.mono ?_
   rintro e w' ⟨rfl,rfl⟩
   go_wp2_with fail
   go_ret
   exact ⟨Qav HE.out.symm,Zr _ _⟩
end Go.Proofs.YthoagdpakddbdaaGreatDoor
namespace Go.Proofs.YthoagdpakddbdaaGreatDoor
open Go.RowKit Go.Extern.Stop Go.Stop Go.Extern Go.Proofs.Tryz
attribute [local go_sem ↓] Go.wp_at_zero Go.wp_at_succ
set_option maxRecDepth 20000 in
set_option maxHeartbeats 8000000 in
theorem Qlc (A B C Q:Option Addr)(n m k c d e L cq:Nat)(N:Qaj) (ls:List (List Int)) (CA:Option Addr) (cn cc:Nat) (cl:List Chn) (w:World) (h:Qbo w A B C n m k N) (hk:k≤9223372036854775807) (hq:RdT w Q L ls) (hL:L≤9223372036854775807) (hc:Qha w CA cn cl) (hcc:cn≤cc∧cc≤9223372036854775807) (hg:w.cell? ⟨0,0,none⟩=some Qmc) :
 Calls prog 7 #[.agg #[.slice A n c,.slice B m d,.slice C k e],.agg #[.slice Q L cq],.slice CA cn cc] w fun r w'=>r=.returned (.bool true)∧Below w.heap.size w w':=by
 have HC:=Zh hc;clear hc;have HH:=Zh h;have HT:=Zh hq;have HG:=Zh hg;have HNA:=Zh (show N.ar.length=m from h.2.1.1)
 have HNV:=Zh (show N.vs.length=n from h.1.1)
 clear h hq hg
 go_enter func7,ntmps7
 go_wp2_with fail
 (refine Qac ?_;intro w1 hw1)
 have hb1:Below w.heap.size w w1:=by rw [hw1];exact Qae
 have hX:Blk w1 w.heap.size 26 #[.slice A n c,.slice B m d,.slice C k e]:=by rw [hw1];exact Qay
 have hY:Blk w1 (w.heap.size+1) 29 #[.slice Q L cq]:=by rw [hw1];exact Qay
 clear hw1;with_reducible refine (Qig w1 (Zc hb1 (Zn _) HG.out)).mono ?_
 rintro r w2 ⟨rfl,hb2⟩;have hq2:=hb2;have hX2:=hX.below hb2 hX.lt;have hY2:=hY.below hb2 hY.lt;have hb2':=Zb hb1 hb2;clear hX hY hb1 hb2;obtain ⟨x0,x1,x2⟩:=hX2.three;have y0:=hY2.cell 0;simp only [List.getElem?_toArray,List.getElem?_cons_zero] at y0
 go_wp2_with fail
 with_reducible refine (Qjp A B C Q n m k c d e L cq N ls w2 (HH.out.below hb2') hk (HT.out.below hb2') hL).mono ?_
 rintro r w3 ⟨hr,hb3⟩;have hb3':=Zb hb2' hb3;have hq3:=Zb hq2 hb3;have hX3:=hX2.below hb3 hX2.lt;have hY3:=hY2.below hb3 hY2.lt;clear x0 x1 x2 y0 hX2 hY2 hb2' hb3 hq2;obtain ⟨b,rfl,hGG⟩:=hr
 cases b with
 | false =>
  clear hGG
  go_wp2_with fail
  go_ret
  exact ⟨rfl,hb3'⟩
 | true =>
 have hmay:=hGG rfl;clear hGG;have HMAY:=Zh hmay;have hok:=hmay.small.ok;have hS9:=Qmz hmay;have HB3:=Zh hb3';have HX3:=Zh hX3;have HY3:=Zh hY3;clear hmay hb3' hq3 hX3 hY3;obtain ⟨x0,x1,x2⟩:=HX3.out.three;have y0:=HY3.out.cell 0;simp only [List.getElem?_toArray,List.getElem?_cons_zero] at y0;obtain ⟨ps,c0,hck⟩:=ck_ex N cl
 go_wp2_with fail
 with_reducible refine (Qfe A B C n m k c d e N CA cn cc cl w3 (HH.out.below HB3.out) (HC.out.below HB3.out) (by omega) ps c0 hck).mono ?_
 rintro r w4 ⟨⟨A4,n4,m4,rfl,hp4,hz4,h54⟩,hb4⟩;have hfl:∀ V,(Instr.field 48 (.agg #[.slice A4 n4 m4,.int .i64 c0]) 1).run prog V=.ok (.int .i64 c0) V:=fun V=>by rfl
 have HB4:=Zh (Zb HB3.out hb4);have HX4:=Zh (HX3.out.below hb4 HX3.out.lt);have HY4:=Zh (HY3.out.below hb4 HY3.out.lt);clear hp4 hz4 h54 hb4 x0 x1 x2 y0 HX3 HY3 HB3
 by_cases hc0:c0=0
 rotate_left
 · have e1:(c0 != 0)=true:=by simpa using hc0
   go_wp2_with fail
   go_ret
   exact ⟨rfl,HB4.out⟩
 subst hc0;obtain ⟨hl256,hbat⟩:=hck.ok;have HBAT:=Zh hbat;clear hck hbat;obtain ⟨x0,x1,x2⟩:=HX4.out.three;have y0:=HY4.out.cell 0;simp only [List.getElem?_toArray,List.getElem?_cons_zero] at y0;have HLN:=Zh (show cl.length=cn from HC.out.1)
 go_wp2_with fail
 have HSX:=Zh (show ∀ V,Below w4.heap.size w4 V→V.cell? ⟨w.heap.size,0,none⟩=some (.slice A n c)∧V.cell? ⟨w.heap.size,1,none⟩=some (.slice B m d)∧V.cell? ⟨w.heap.size,2,none⟩=some (.slice C k e)∧V.cell? ⟨w.heap.size+1,0,none⟩=some (.slice Q L cq) from fun V hV=>by
  obtain ⟨z0,z1,z2⟩:=(HX4.out.below hV HX4.out.lt).three;have q0:=(HY4.out.below hV HY4.out.lt).cell 0;simp only [List.getElem?_toArray,List.getElem?_cons_zero] at q0;exact ⟨z0,z1,z2,q0⟩)
 refine wp_region_held_drew (S:=fun V=>Below w4.heap.size w4 V) (by kernel_rfl) (Zr _ _).drew (fun _=>?_);clear x0 x1 x2 y0;refine tz 0 32 ?_;refine tz 2 34 ?_;refine tz 3 35 ?_;refine Zk 1 (fun K hK=>?_);go_simp;with_reducible refine (Qhd A B C n m k c d e N w4.drew (HH.out.below HB4.out.drew) hok).mono ?_
 rintro r w5 ⟨g,rfl,hG5,hb5⟩;have hb5':Below w4.heap.size w4 w5:=(Zr _ _).drew.trans hb5;have HG5:=Zh hG5;have hz5:=HB4.out.size;clear hb5 hG5;go_simp;refine hK.out _ _ hb5' (fun _=>?_);clear hK K;refine Zk 4 (fun K hK=>?_);go_simp;with_reducible refine (Qhc A B C Q n m k c d e L cq N ls w5 (HH.out.below (Zb HB4.out hb5')) hok (HT.out.below (Zb HB4.out hb5')) HMAY.out.part).mono ?_
 rintro r w6 ⟨o,rfl,hO6,hb6⟩;obtain ⟨F,G,hGO,hFL⟩:∃ F G,GO w6 F G g o N ls∧∀ b,F b→w.heap.size≤b:=⟨_,_,⟨HG5.out.below hb6,hO6,fun b h1 h2=>by omega,fun b h=>h.2⟩,fun b h=>Nat.le_trans hz5 h.1⟩;have HS6:=Zh (show MdS w6 F G g o N ls (Qbf (gatesOf N.ar ls)) from ⟨hGO,HMAY.out.part,rfl,hS9⟩)
 have HFL:=Zh hFL;have hb6':=Zb hb5' hb6;have HB6:=Zh (Zb HB4.out hb6');have HX6:=Zh (HX4.out.below hb6' HX4.out.lt);have HY6:=Zh (HY4.out.below hb6' HY4.out.lt);clear hO6 hb6 hGO hFL HG5 hz5;go_simp;refine hK.out _ _ hb6' (fun _=>?_);clear hK K;refine tz 5 7 ?_;refine tz 6 8 ?_;refine Zd ?_;clear HSX hb5' hb6' HX4 HY4 HB4;obtain ⟨NC,hNC⟩:∃ NC,NC=Qbf (gatesOf N.ar ls):=⟨_,rfl⟩;rw [←hNC] at HS6;have HNC:=Zh hNC;clear hNC;obtain ⟨hl6,hlv,har⟩:=Qsr HMAY.out;have hrl:ls.length=L:=HT.out.1;have HRL:=Zh hrl;have hcn9:cn≤256:=by rw [←HLN.out];exact hl256
 have HF6:=Zh (fun b hb=>HS6.out.go.gr.lt (b:=b) hb);have HLV:=Zh hlv;have HL6:=Zh hl6;clear hlv hrl hl6
 go_wp2_with fail
 with_reducible refine (Qwb w6 F G g o N ls NC HS6.out).mono ?_
 unfold AllQ;rintro r w7 ⟨B0,wl,rfl,hz0,hB0,hA0,hb7⟩;have HS7:=Zh (HS6.out.below hb7);have HB7:=Zh (Zb HB6.out hb7);have HB0:=Zh hB0;have HA0:=Zh hA0;have hz67:=hb7.size;clear hB0 hA0 hb7 HS6 HB6 HX6 HY6
 go_wp2_with fail
 with_reducible refine (Qhv CA cn cc cl w7 (HC.out.below HB7.out) (by omega)).mono ?_
 rintro r w8 ⟨A8,c8,rfl,ho8,hb8⟩;have hz78:=hb8.size;have HS8:=Zh (HS7.out.below hb8);have HTO:=Zh (Qmd w8 g o N ls A8 cn c8 cl HS8.out.go.gr.rd hok HS8.out.go.ovR HMAY.out.part ho8.rds.rdC HBAT.out hl256);have HB8:=Zh (Zb HB7.out hb8);have HE8:=Zh (HB0.out.below hb8 HB0.out.lt);clear ho8 hb8 HS7 HB7 HB0
 go_wp2_with fail
 with_reducible refine HTO.out.mono ?_
 unfold TlP;rintro r w9 ⟨T9,cs9,bs9,rfl,hT9,hb9⟩;rw [HRL.out];have hz89:=hb9.size
 have HT9:=Zh (show RdQ w9 (some ⟨T9,0,none⟩) L (tb ls (Qcc N ls cl)) by
  have:=hT9.rdQ (fun r hr=>by have:=Qgw HMAY.out _ r hr;omega);rw [Qcs,HRL.out] at this;exact this)
 have HS9:=Zh (HS8.out.below hb9);have HB9:=Zh (Zb HB8.out hb9);have HE9:=Zh (HE8.out.below hb9 HE8.out.lt);have HFT:=Zh (fun b (hb:b∈bs9)=>show ¬F b from fun h=>by have:=HF6.out b h;have:=(hT9.blo b hb).1;omega)
 have HTW:=Zh hT9;clear hT9 hb9 HTO HS8 HB8 HE8 HT9
 go_wp2_with fail
 with_reducible refine (Qhv CA cn cc cl w9 (HC.out.below HB9.out) (by omega)).mono ?_
 rintro r wa ⟨Aa,ca,rfl,hoa,hba⟩;have hza:=hba.size;have HDA:=Zh (Qsn wa F G g o N ls NC Aa cn ca NC B0 w9.heap.size cl wl (HS9.out.below hba) (HE9.out.below hba HE9.out.lt) (fun h=>by have:=HF6.out B0 h;omega) HA0.out hoa (fun b h=>by have:=HF6.out b h;omega) HBAT.out hl256);have HBa:=Zh (Zb HB9.out hba);have HEa:=Zh (HE9.out.below hba HE9.out.lt);have HTa:=Zh (HTW.out.below hba);clear hoa hba HS9 HB9 HE9 HTW
 go_wp2_with fail
 with_reducible refine HDA.out.mono ?_
 unfold DoQ;rintro r wb ⟨Bb,dl,Fb,rfl,hzb,hBb,hAb,hSb,hFb,hKb,hszb,hBelb⟩;have HSb:=Zh hSb;have HAb:=Zh hAb;have HBb:=Zh (HBa.out.trans (hBelb w.heap.size HBa.out.size (fun b h=>HFL.out b h)));have HEb:=Zh (hKb.blkM HEa.out (fun h=>by have:=HF6.out B0 h;omega));have HCb:=Zh hBb
 have HTb:=Zh (show RdQ wb (some ⟨T9,0,none⟩) L (tb ls (Qcc N ls cl)) by
  have:=(HTa.out.kept hKb (fun b hb h=>by have:=HF6.out b h;omega)).rdQ (fun r hr=>by have:=Qgw HMAY.out _ r hr;omega);rw [Qcs,HRL.out] at this;exact this)
 have hcl9:dl.length=NC:=by rw [hAb.1,(Qcl HBAT.out).kin.al.gatesOf];exact HNC.out.symm
 have hwl9:wl.length=NC:=by rw [HA0.out.1];exact HNC.out.symm
 have hn9:NC≤1000000000:=by rw [HNC.out];exact hS9
 have HCL9:=Zh hcl9;clear hBb hAb hSb hFb hKb hBelb HDA HBa HEa HTa hcl9
 go_wp2_with fail
 with_reducible refine (Qpz wb o N.ar ls (some ⟨B0,0,none⟩) (some ⟨Bb,0,none⟩) NC NC NC wl dl (HSb.out.go.ovR.alike (Qcl HBAT.out).kin.symm.al) (HEb.out.rdI hwl9) (HCb.out.rdI HCL9.out) HNC.out hn9 HL6.out HLV.out har).mono ?_
 unfold TlP;rintro r wc ⟨TC,csc,bsc,rfl,hTC,hbc⟩;rw [HRL.out]
 have HQc:=Zh (show RdQ wc (some ⟨TC,0,none⟩) L (tb ls (Qpu N.ar ls wl dl)) by
  have:=hTC.rdQ (fun r hr=>by have:=Qgw HMAY.out _ r hr;omega);rw [Qcs,HRL.out] at this;exact this)
 have HTc:=Zh (HTb.out.below hbc);have HSc:=Zh (HSb.out.below hbc);have HCc:=Zh (HCb.out.below hbc HCb.out.lt);have HBc:=Zh (Zb HBb.out hbc);have hL6:L≤6:=by rw [←HRL.out];exact HL6.out
 have e0:((L:Int) != (L:Int))=false:=by simp
 clear hTC hbc HTb HSb HCb HEb HBb;obtain ⟨hw,hhw⟩:∃ x,x=Qeq (tb ls (Qcc N ls cl)):=⟨_,rfl⟩;rw [←hhw];have HHW:=Zh hhw;have e1:((hw:Int) != (hw:Int))=false:=by simp
 clear hhw
 go_wp2_with fail
 with_reducible refine (Qtm (some ⟨T9,0,none⟩) L L (tb ls (Qcc N ls cl)) wc HTc.out (by omega) (fun r hr=>Nat.le_trans (Qgw HMAY.out _ r hr) (by omega))).mono ?_
 rintro r w' ⟨rfl,rfl⟩;rw [←HHW.out]
 go_wp2_with fail
 with_reducible refine (right_ok wc g o (Qfg N cl) ls HSc.out.go.gr.rd HSc.out.go.gr.ok HSc.out.go.ovR HSc.out.part (by rw [←HSc.out.nc];exact hn9) (some ⟨Bb,0,none⟩) NC NC dl dl (HCc.out.rdI HCL9.out) hn9 HAb.out).mono ?_
 rintro r wd ⟨rfl,hbd⟩;rw [decide_eq_true rfl];have HTd:=Zh (HTc.out.below hbd);have HQd:=Zh (HQc.out.below hbd);have HBd:=Zh (Zb HBc.out hbd);have HIM:=Zh (show ∀ (i q:Nat) (l:List Int),ls[i]?=some l→q<(Qai l).toNat→Qpu N.ar ls wl dl i q=true→Qcc N ls cl i q=true from fun i q l hl hq hd=>dif_tch hok HBAT.out HMAY.out.part HA0.out HAb.out hl hq hd)
 clear hbd HTc HQc HSc HCc HBc HAb HA0
 go_wp2_with fail
 go_loopw [17] (fun q V=>Below wd.heap.size wd V∧∃ i:Nat,i≤L∧q=.int .i64 i) (fun q _=>L-(intOf q).toNat)
 case atStart=>exact ⟨Zr _ _,0,Nat.zero_le _,rfl⟩
 case round =>
  obtain ⟨hbl,i,hi,rfl⟩:=hrel
  by_cases hlt:i<L
  rotate_left
  · obtain rfl:i=L:=by omega
    have i3:¬((i:Int)<(i:Int)):=by omega
    go_wp2_with fail
    go_ret
    exact ⟨rfl,Zb HBd.out hbl⟩
  obtain ⟨r0,hr0⟩:∃ r0,ls[i]?=some r0:=⟨_,Zg (by rw [HRL.out];exact hlt)⟩;obtain ⟨b1,o1,A1,n1,c1,t1,hTA,ht1,d1,r1,_,_⟩:=(HTd.out.below hbl).at_ hlt;obtain ⟨b2,o2,A2,n2,c2,t2,hDA,ht2,d2,r2,_,_⟩:=(HQd.out.below hbl).at_ hlt
  cases hTA
  cases hDA
  rw [Qcw hr0] at ht1 ht2;obtain rfl:=Option.some.inj ht1;obtain rfl:=Option.some.inj ht2;obtain ⟨M,hM⟩:∃ M,M=(Qai r0).toNat:=⟨_,rfl⟩;have hn1:n1=M:=by rw [hM,←r1.1];simp
  have hn2:n2=M:=by rw [hM,←r2.1];simp
  subst hn1;subst hn2;have hMM:=HLV.out r0 (Zm hr0);rw [←hM] at hMM;have HR1:=Zh r1;have HR2:=Zh r2;have HR0:=Zh hr0;have HMM:=Zh hM;have i1:(i:Int)<(L:Int):=by omega
  have i2:(0:Int)≤(i:Int):=by omega
  have e2:((n2:Int) != (n2:Int))=false:=by simp
  simp only [Nat.zero_add] at d1 d2;have HD1:=Zh d1;have HD2:=Zh d2;clear r1 r2 hr0 hM ht1 ht2
  go_wp2_with fail
  go_quiet (fail)
  go_wp2_with fail
  go_loopw [18] (fun q V=>Below wr.heap.size wr V∧∃ j:Nat,j≤n2∧q=.int .i64 j) (fun q _=>n2-(intOf q).toNat)
  case atStart=>exact ⟨Qae,0,Nat.zero_le _,rfl⟩
  case round =>
   obtain ⟨hbl2,j,hj,rfl⟩:=hrel;have d1:=Zc hbl2 (Zn _) HD1.out;have d2:=Zc hbl2 (Zn _) HD2.out
   by_cases hlt2:j<n2
   rotate_left
   · obtain rfl:j=n2:=by omega
     have i3:¬((j:Int)<(j:Int)):=by omega
     go_wp2_with fail
     go_roundw
     case rel=>exact ⟨Zb hbl hbl2,i+1,by omega,by go_num⟩
     case measure=>simp [intOf];omega
   obtain ⟨b3,o3,y1,rfl,hy1,cy1⟩:=(HR1.out.below hbl2).at_ hlt2;obtain ⟨b4,o4,y2,rfl,hy2,cy2⟩:=(HR2.out.below hbl2).at_ hlt2;have hq:j<(Qai r0).toNat:=by rw [←HMM.out];exact hlt2
   rw [Qni r0 hq] at hy1 hy2;obtain rfl:=Option.some.inj hy1;obtain rfl:=Option.some.inj hy2;have him:=HIM.out i j r0 HR0.out hq;have j1:(j:Int)<(n2:Int):=by omega
   have j2:(0:Int)≤(j:Int):=by omega
   clear hy1 hy2 hq;generalize Qcc N ls cl i j=y1 at cy1 him;generalize Qpu N.ar ls wl dl i j=y2 at cy2 him
   cases y2 with
   | false =>
    clear him
    go_wp2_with fail
    go_roundw
    case rel=>exact ⟨hbl2,j+1,by omega,by go_num⟩
    case measure=>simp [intOf];omega
   | true =>
    obtain rfl:y1=true:=him rfl;clear him
    go_wp2_with fail
    go_roundw
    case rel=>exact ⟨hbl2,j+1,by omega,by go_num⟩
    case measure=>simp [intOf];omega
end Go.Proofs.YthoagdpakddbdaaGreatDoor
namespace Go.Proofs.YthoagdpakddbdaaGreatDoor
open Go.ChangeShapes Go.WideShapes Go.ChangeAt Go.RowKit Go.Deep
namespace MendKeepsDone
set_option maxRecDepth 100000 in
theorem lifted (os:Os)(started:os.Started)(H:Type)(enc:TypeId×Value→H) :
 ReturnsInHanded {} Tryz.checked os 7 .any (fun w args => (Rows.mendKeepsSpec.pre enc Tryz.prog Tryz.f7 [] false w args ∧ laidMetH Tryz.prog [("errors.errorType", Rows.laid_errors_errorType)] w) ∧ sizedMet enc Tryz.prog Tryz.f7 (OpenSpec.ofChange Rows.mendKeepsSpec) false w args)
  (Rows.mendKeepsSpec.post enc Tryz.prog Tryz.f7 false true false false):=by
 refine returnsInHanded_of_change_and (C := Tryz.checked) (X := fun w _ => laidMetH Tryz.prog [("errors.errorType", Rows.laid_errors_errorType)] w) (fun _ _ _ hh h => h.of_heap hh) own_ started (by kernel_rfl) Tryz.func7
  (ChangeSpec.witness_at (enc := enc) (C := Tryz.checked) (os := os) (X := fun w _ => laidMetH Tryz.prog [("errors.errorType", Rows.laid_errors_errorType)] w) false (Qho os) #[.agg #[.slice none 0 0, .slice none 0 0, .slice none 0 0], .agg #[.slice none 0 0], .slice none 0 0] 8 rfl (by kernel_rfl) (by kernel_rfl) (by kernel_rfl) (by kernel_rfl) (by kernel_rfl) (Qfc os _)) ?_
 intro W base args ds gs before hval0 hW _ hsz0 hL _;clear hsz0;have hval:∀ (j:Nat) t v,Tryz.f7.params[j]?=some t→args[j]?=some v→Value.okWide Tryz.prog W .any base t v:=hval0;have hW':=hW;obtain ⟨p,q,hA0,hV,rfl,hfz,hnd⟩:=hW;have hA:DataW.TrodAll enc Tryz.prog W 0 (fun _=>true) true Tryz.f7.params.toList args.toList ds p:=hA0;rw [Tryz.params7] at hA hval;obtain ⟨v0,vs0,d0,ds0,p0,q0,hargs,rfl,rfl,h0,r0⟩:=trodAll_cons hA;obtain ⟨v1,vs1,d1,ds1,p1,q1,rfl,rfl,rfl,h1,r1⟩:=trodAll_cons r0;obtain ⟨v2,vs2,d2,ds2,p2,q2,rfl,rfl,rfl,h2,r2⟩:=trodAll_cons r1;obtain ⟨rfl,rfl,rfl⟩:=trodAll_nil r2;obtain rfl:args=#[v0,v1,v2]:=by cases args;simp_all
 obtain ⟨rfl,rfl⟩:=trodVars_none hV;obtain ⟨cs0,rfl,_⟩:=okWide_struct Tryz.underlying26 (hval 0 26 v0 rfl rfl);have k0:=h0;have lt0:∀ x∈p0,x.block<W.heap.size:=by obtain ⟨m,hm⟩:=k0;exact DataW.trod_lt m _ _ _ hm
 obtain ⟨A,B,C,n,m,k,c,d,e,N,hcs0,hnet,hk⟩:∃ (A B C:Option Addr) (n m k c d e:Nat) (N:Qaj),cs0=#[.slice A n c,.slice B m d,.slice C k e]∧Qbo W A B C n m k N∧k≤9223372036854775807:=by
  obtain ⟨fuel,hf⟩:=h0;obtain ⟨A,B,C,n,m,k,c,d,e,N,e1,e2,e3⟩:=Qmr hf;exact ⟨A,B,C,n,m,k,c,d,e,N,Array.toList_inj.1 e1,e2,e3⟩
 subst hcs0;obtain ⟨cs1,rfl,_⟩:=okWide_struct Tryz.underlying29 (hval 1 29 v1 rfl rfl);have k1:=h1;have lt1:∀ x∈p1,x.block<W.heap.size:=by obtain ⟨m,hm⟩:=k1;exact DataW.trod_lt m _ _ _ hm
 obtain ⟨Q,L,cq,ls,hcs1,hpart,hLc⟩:∃ (Q:Option Addr) (L cq:Nat) (ls:List (List Int)),cs1=#[.slice Q L cq]∧RdT W Q L ls∧L≤9223372036854775807:=by
  obtain ⟨fuel,hf⟩:=h1;obtain ⟨Q,L,cq,ls,e1,e2,e3,e4⟩:=Qkq hf;exact ⟨Q,L,cq,ls,Array.toList_inj.1 e1,e2,by omega⟩
 subst hcs1;obtain ⟨a2,len2,cap2,rfl⟩:=okWide_slice Tryz.underlying57 (hval 2 57 v2 rfl rfl);have k2:=h2;have lt2:∀ x∈p2,x.block<W.heap.size:=by obtain ⟨m,hm⟩:=k2;exact DataW.trod_lt m _ _ _ hm
 obtain ⟨ac,hac,hlac⟩:∃ ac:List Chn,Qha W a2 len2 ac∧len2≤cap2∧cap2≤9223372036854775807:=by
  obtain ⟨fuel,hf⟩:=h2;obtain ⟨l,h1,h2,h3⟩:=Qph hf;exact ⟨l,h1,h2,h3⟩
 clear hA0 hval0;have hg:=Qem hL;refine (Qlc A B C Q n m k c d e L cq N ls a2 len2 cap2 ac W hnet hk hpart hLc hac hlac hg).mono fun e W' ⟨he,bel⟩=>?_
 subst he;exact ⟨_,rfl,_,_,_,[],_,[],hW',trodAll_mk1 (shut_bool Tryz.underlying4 _),(trodAll_cons_mk (Below.trod Qde (by kernel_rfl) (of_decide_eq_true (by kernel_rfl)) k0 bel lt0) (trodAll_cons_mk (Below.trod Qde (by kernel_rfl) (of_decide_eq_true (by kernel_rfl)) k1 bel lt1) (trodAll_cons_mk (Below.trod Qde (by kernel_rfl) (of_decide_eq_true (by kernel_rfl)) k2 bel lt2) trodAll_mk0))),rfl,bel.frame _,fun h=>by cases h⟩
theorem jf0:Rows.mendKeepsRow.wf (OpenSpec.ofChange Rows.mendKeepsSpec)=true:=by kernel_rfl
theorem jf1:laidOutB Tryz.prog=true:=by kernel_rfl
theorem jf2:mapsRowed Tryz.prog=true:=by kernel_rfl
theorem jf3:Tryz.f7.params.all (Tryz.prog.readableRec ·)=true:=by kernel_rfl
theorem jf4:namedTie Tryz.prog Rows.mendKeepsRow.named Rows.mendKeepsSpec.vars=true:=by kernel_rfl
theorem jf5:(Rows.mendKeepsRow.stops == [])=true:=by kernel_rfl
theorem jf6:(Tryz.prog.stops == [])=true:=by kernel_rfl
theorem jf7:(Rows.mendKeepsRow.knobs == [])=true:=by kernel_rfl
theorem jf8:(Tryz.prog.stopKnobs == [])=true:=by kernel_rfl
theorem jf9:(Rows.mendKeepsRow.inPlace == Tryz.prog.inPlace 7)=true:=by kernel_rfl
theorem jf10:(Rows.mendKeepsRow.unfollowed == Tryz.prog.unfollowed 7)=true:=by kernel_rfl
theorem jf11:(Rows.mendKeepsRow.recurses == Tryz.prog.recurses 7)=true:=by kernel_rfl
theorem jf12:(Rows.mendKeepsRow.named == Tryz.prog.varsNamed 7)=true:=by kernel_rfl
theorem jf13:(Rows.mendKeepsRow.maps == (Tryz.f7.params.toList ++Rows.mendKeepsSpec.plain.varTypes Tryz.prog).any (Tryz.prog.mapsRec ·))=true:=by kernel_rfl
theorem jf14:(Rows.mendKeepsRow.ifaces == (Tryz.f7.params.toList ++Rows.mendKeepsSpec.plain.varTypes Tryz.prog).any (Tryz.prog.ifacesRec ·))=true:=by kernel_rfl
theorem jf15:(Rows.mendKeepsRow.mapsOut == Tryz.prog.mapsAmong Tryz.f7.resultTypes.toList)=true:=by kernel_rfl
theorem jf16:(Rows.mendKeepsRow.loops == (Tryz.f7.params.toList ++Rows.mendKeepsSpec.plain.varTypes Tryz.prog).any (Tryz.prog.loopsFrom ·))=true:=by kernel_rfl
theorem jf17:(Rows.mendKeepsRow.wideKeys == (Tryz.f7.params.toList ++Rows.mendKeepsSpec.plain.varTypes Tryz.prog ++Tryz.f7.resultTypes.toList).any (Tryz.prog.wideKeysFrom ·))=true:=by kernel_rfl
theorem jf18:Rows.mendKeepsSpec.vars.all (Tryz.prog.varReadable ·)=true:=by kernel_rfl
theorem jf19:Tryz.f7.resultTypes.all (fun t=>Tryz.prog.readableRec t && decide (t<Tryz.prog.types.size))=true:=by kernel_rfl
theorem jf20:(Rows.mendKeepsRow.ifacesOut == Tryz.f7.resultTypes.toList.any (Tryz.prog.ifacesRec ·))=true:=by kernel_rfl
theorem jf21:(Rows.mendKeepsRow.loopsOut == Tryz.f7.resultTypes.toList.any (Tryz.prog.loopsFrom ·))=true:=by kernel_rfl
theorem jf22:(Rows.mendKeepsRow.plainKeys == Tryz.prog.plainKeys)=true:=by kernel_rfl
theorem jf23:Rows.mendKeepsRow.shortTexts.isNone=true:=by kernel_rfl
theorem jf24:Tryz.prog.stopsHeard=true:=by kernel_rfl
theorem jf25:Tryz.prog.mayEnter=true:=by kernel_rfl
theorem jf26:(Rows.mendKeepsRow.lifted == Tryz.prog.liftsFinal)=true:=by kernel_rfl
theorem jf27:(Tryz.prog.make == some Rows.mendKeepsRow.make)=true:=by kernel_rfl
theorem jf28:(Rows.mendKeepsRow.kinds == (if Rows.mendKeepsRow.domain.isEmpty then [] else Tryz.f7.params.toList.map fun t=>match Tryz.prog.underlying t with|some (.int k)=>some k|_=>none))=true:=by kernel_rfl
theorem jf29:(Rows.mendKeepsRow.pinned == Rows.mendKeepsRow.pinnedBy)=true:=by kernel_rfl
theorem jf30:(Rows.mendKeepsRow.veiled == (Tryz.f7.params.toList ++Rows.mendKeepsSpec.plain.varTypes Tryz.prog ++Tryz.f7.resultTypes.toList).any (Tryz.prog.veiledRec ·))=true:=by kernel_rfl
theorem jf31:Rows.mendKeepsRow.veiledFits Tryz.prog Tryz.f7.params.toList (Tryz.f7.params.toList ++Rows.mendKeepsSpec.plain.varTypes Tryz.prog ++Tryz.f7.resultTypes.toList)=true:=by kernel_rfl
set_option maxRecDepth 100000 in
theorem closed:joinedFacts Tryz.prog 7 Tryz.f7 Rows.mendKeepsSpec Rows.mendKeepsRow=true:=by
 simp only [joinedFacts,Bool.and_eq_true];exact ⟨⟨⟨⟨⟨⟨⟨⟨⟨⟨⟨⟨⟨⟨⟨⟨⟨⟨⟨⟨⟨⟨⟨⟨⟨⟨⟨⟨⟨⟨⟨jf0,jf1⟩,jf2⟩,jf3⟩,jf4⟩,jf5⟩,jf6⟩,jf7⟩,jf8⟩,jf9⟩,jf10⟩,jf11⟩,jf12⟩,jf13⟩,jf14⟩,jf15⟩,jf16⟩,jf17⟩,jf18⟩,jf19⟩,jf20⟩,jf21⟩,jf22⟩,jf23⟩,jf24⟩,jf25⟩,jf26⟩,jf27⟩,jf28⟩,jf29⟩,jf30⟩,jf31⟩
theorem named : Tryz.prog.funcNamed "roundsman/roundsmanlaw20.MendKeeps" = some 7 := by kernel_rfl
theorem inst:Tryz.f7.isInstance Tryz.prog Rows.mendKeepsRow.origin Rows.mendKeepsRow.targs:=of_decide_eq_true (by kernel_rfl)
theorem wrap:Tryz.f7.isWrapper Tryz.prog Rows.mendKeepsRow.wrapper Rows.mendKeepsRow.mainSum:=by unfold Func.isWrapper;rw [if_neg (of_decide_eq_false (by kernel_rfl))];exact ⟨rfl,rfl⟩
theorem over:Rows.MendKeepsSaid :=
 OpenClaim.holds_of_wide 7 Tryz.f7 rfl rfl rfl rfl rfl rfl rfl ⟨rfl,rfl,rfl,rfl,rfl⟩ rfl rfl rfl rfl rfl named Tryz.func7 closed inst wrap
  (fun os started H enc _=>lifted os started H enc)
theorem byText:Rows.mendKeepsRow.wfByText (OpenSpec.ofChange Rows.mendKeepsSpec)=true:=by kernel_rfl
theorem mainIs : Tryz.prog.mainIs = some (((true, "c61748c2e54d6490013d0fbe206834b53a8f4fa6dfde03158dfa1de7149a82b2") : Bool × String).1, ((true, "c61748c2e54d6490013d0fbe206834b53a8f4fa6dfde03158dfa1de7149a82b2") : Bool × String).2.toList) := by kernel_rfl
theorem looksL:true=Tryz.prog.looks []:=by kernel_rfl
theorem goes:false=Rows.mendKeepsRow.goesBy Tryz.prog:=by kernel_rfl
theorem proved:Rows.MendKeepsCardSaid :=
 Claim7.holds_tied_plain_at .later [] [.handle] true (true, "c61748c2e54d6490013d0fbe206834b53a8f4fa6dfde03158dfa1de7149a82b2") true
  over (fun _ h=>by cases h) byText (fun _ h=>by cases h) mendKeeps_row_tie rfl ⟨rfl,rfl⟩ mainIs rfl
  (fun f fn hf hfn=>by
   obtain rfl:f=7:=Option.some.inj (named.symm.trans hf) |>.symm
   obtain rfl:fn=Tryz.f7:=(Option.some.inj (Tryz.func7.symm.trans hfn)).symm
   exact ⟨looksL,fun j t ht=>by
    rw [Tryz.params7] at ht
    rcases j with _|_|_|j
    · obtain rfl:t=26:=by simpa using ht.symm
      exact (show Tryz.prog.wantsStandIn 26=false by kernel_rfl)
    · obtain rfl:t=29:=by simpa using ht.symm
      exact (show Tryz.prog.wantsStandIn 29=false by kernel_rfl)
    · obtain rfl:t=57:=by simpa using ht.symm
      exact (show Tryz.prog.wantsStandIn 57=false by kernel_rfl)
    · simp at ht⟩)
  goes
#print axioms proved
end MendKeepsDone
end Go.Proofs.YthoagdpakddbdaaGreatDoor
