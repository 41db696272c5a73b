/- For every input ManyRows returns true, and its arguments read afterwards as before; package errors' variable errorType tied to the program's text. No condition. -/
import Derived.Test.YteaoiabikjnkeaaGreatDoorR1
import Derived.Test.YteaoiabikjnkeaaGreatDoorR34
import Derived.Test.YteaoiabikjnkeaaGreatDoorR40
import Derived.Test.YteaoiabikjnkeaaGreatDoorR41
import Derived.Test.YteaoiabikjnkeaaGreatDoorR42
namespace Go.Proofs.YteaoiabikjnkeaaGreatDoor
open Go.RowKit Go.Extern.Stop Go.Stop Go.Extern Go.Proofs.Tryz
attribute [local go_sem ↓] Go.wp_at_zero Go.wp_at_succ
theorem rowBad_c {nt NC S m:Nat}{s:Int}{tl:List Int}{p:ByteArray}{k c:Int} (h:Qcs nt NC S m s tl=some (p,k,c)):c≠0:=by
 unfold Qcs at h
 split at h
 · cases h;decide
 split at h
 · cases h;decide
 split at h
 · cases h;decide
 cases hb:Qdc m tl with
 | none=>rw [hb] at h;cases h
 | some i=>rw [hb] at h;cases h;decide
theorem Qrc {nt NC S m:Nat}{s:Int}{tl:List Int}(h:Qcs nt NC S m s tl=none):NC=S∧(0≤s∧s<(m:Int))∧∀ (i:Nat) (a:Int),tl[i]?=some a→0≤a∧a<(m:Int):=by
 unfold Qcs at h
 split at h
 · cases h
 split at h
 · cases h
 split at h
 · cases h
 rename_i h1 h2 h3;exact ⟨by omega,by omega,Qdx (Option.map_eq_none_iff.1 h)⟩
set_option maxRecDepth 20000 in
set_option maxHeartbeats 4000000 in
theorem Qnn (A B C Q:Option Addr)(n m k c d e L cq:Nat)(N:Qap) (ls:List (List Int)) (s:Int) (TA:Option Addr) (nt ct:Nat) (tl:List Int) (w:World) (h:Qcj w A B C n m k N) (hk:k≤9223372036854775807) (hq:RdT w Q L ls) (hL:L≤9223372036854775807) (ht:RdI w TA nt tl) (_:nt≤4000000000000000000) (hg:w.cell? ⟨0,0,none⟩=some Qne) :
 Calls prog 6 #[.agg #[.slice A n c,.slice B m d,.slice C k e],.agg #[.slice Q L cq],.int .i64 s,.slice TA nt ct] w fun r w'=>r=.returned (.bool true)∧Below w.heap.size w w':=by
 have HTL:=Zh ht;clear ht;have HH:=Zh h;have HT:=Zh hq;have HG:=Zh hg;have HNA:=Zh (show N.ar.length=m from h.2.1.1)
 have HNV:=Zh (show N.vs.length=n from h.1.1)
 clear h hq hg
 go_enter func6,ntmps6
 go_wp2_with fail
 (refine Qac ?_;intro w1 hw1)
 have hb1:Below w.heap.size w w1:=by rw [hw1];exact Qah
 have hX:Blk w1 w.heap.size 26 #[.slice A n c,.slice B m d,.slice C k e]:=by rw [hw1];exact Qbg
 have hY:Blk w1 (w.heap.size+1) 29 #[.slice Q L cq]:=by rw [hw1];exact Qbg
 clear hw1;with_reducible refine (Qlm w1 (Zc hb1 (Zn _) HG.out)).mono ?_
 rintro r w2 ⟨rfl,hb2⟩;have hq2:=hb2;have hX2:=hX.below hb2 hX.lt;have hY2:=hY.below hb2 hY.lt;have hb2':=Zb hb1 hb2;clear hX hY hb1 hb2;obtain ⟨x0,x1,x2⟩:=hX2.three;have y0:=hY2.cell 0;simp only [List.getElem?_toArray,List.getElem?_cons_zero] at y0
 go_wp2_with fail
 with_reducible refine (Qxp A B C Q n m k c d e L cq N ls w2 (HH.out.below hb2') hk (HT.out.below hb2') hL).mono ?_
 rintro r w3 ⟨hr,hb3⟩;have hb3':=Zb hb2' hb3;have hq3:=Zb hq2 hb3;have hX3:=hX2.below hb3 hX2.lt;have hY3:=hY2.below hb3 hY2.lt;clear x0 x1 x2 y0 hX2 hY2 hb2' hb3 hq2;obtain ⟨b,rfl,hGG⟩:=hr
 cases b with
 | false =>
  clear hGG
  go_wp2_with fail
  go_ret
  exact ⟨rfl,hb3'⟩
 | true =>
 have hmay:=hGG rfl;clear hGG;have HMAY:=Zh hmay;have hok:=hmay.small.ok;clear hmay;obtain ⟨x0,x1,x2⟩:=hX3.three;have y0:=hY3.cell 0;simp only [List.getElem?_toArray,List.getElem?_cons_zero] at y0
 by_cases h80:80<nt
 · have i80:(80:Int)<(nt:Int):=by omega
   go_wp2_with fail
   go_ret
   exact ⟨rfl,hb3'⟩
 have i80:¬(80:Int)<(nt:Int):=by omega
 go_wp2_with fail
 with_reducible refine (Qnj A B C Q n m k c d e L cq N ls w3 (HH.out.below hb3') hok (HT.out.below hb3') HMAY.out.part (Qrt HMAY.out)).mono ?_
 unfold Qpb;rintro r w5 ⟨⟨g,o,CB,NC,cl,F,rfl,hNCe,hG5,hF5,hO5,hC5,hA5⟩,hb5⟩;have HNC:=Zh hNCe;have HB5:=Zh (Zb hb3' hb5);have HQ5:=Zh (Zb hq3 hb5);have HX5:=Zh (hX3.below hb5 hX3.lt);have HY5:=Zh (hY3.below hb5 hY3.lt);have HG5:=Zh hG5.rd;have HO5:=Zh (hO5.le (Qba _ _));have HC5:=Zh (show RdI w5 (some ⟨CB,0,none⟩) NC cl from ⟨hC5.1,fun i x hx=>by obtain ⟨b,o,e,h1⟩:=hC5.2 i x hx;exact ⟨b,o,e,Qba _ _ _ _ h1⟩⟩)
 have HALL:=Zh hA5;clear x0 x1 x2 y0 hX3 hY3 hb5 hb3' hNCe hG5 hF5 hO5 hC5 hA5 hq3;obtain ⟨x0,x1,x2⟩:=HX5.out.three;have y0:=HY5.out.cell 0;simp only [List.getElem?_toArray,List.getElem?_cons_zero] at y0;have hS9:=Qrt HMAY.out;have HCQ:=Zh (fun V (hV:Below w.heap.size w V)=>Qrd A B C Q n m k c d e L cq N ls V (HH.out.below hV) hok (HT.out.below hV) HMAY.out.part hS9)
 go_wp2_with fail
 with_reducible refine (HCQ.out w5 HB5.out).mono ?_
 unfold Qwx;rintro r w7 ⟨G,cg,AE,ce,EL,rfl,hG7,hE7,hEl,hEP,hb7⟩;have hNC9:NC≤1000000000:=by rw [HNC.out];exact hS9
 have HB7:=Zh (Zb HB5.out hb7);rw [hEl,←HNC.out];have HX7:=Zh (HX5.out.below hb7 HX5.out.lt);have HG7:=Zh (HG5.out.below hb7);have HO7:=Zh (HO5.out.below hb7);have HC7:=Zh (HC5.out.below hb7);have HQ7:=Zh (Zb HQ5.out hb7);clear hG7 hE7 hEl hEP hb7 HCQ HX5 HY5 HG5 HO5 HC5 x0 x1 x2 y0;have HTL7:=Zh (HTL.out.below HB7.out);obtain ⟨w8,hw8⟩:∃ w8,w8=w7.alloc (.cells #[.slice A n c,.slice B m d,.slice C k e,.slice Q L cq,.slice G L cg,.slice AE NC ce] 40):=⟨_,rfl⟩;have hb8:Below w7.heap.size w7 w8:=by rw [hw8];exact Qah
 have HY8:=Zh (show Blk w8 w7.heap.size 40 #[.slice A n c,.slice B m d,.slice C k e,.slice Q L cq,.slice G L cg,.slice AE NC ce] by rw [hw8];exact Blk.new _ _ _)
 have HX8:=Zh (HX7.out.below hb8 HX7.out.lt);have HB8:=Zh (Zb HB7.out hb8);have HTL8:=Zh (HTL7.out.below hb8);have Hw8:=Zh hw8;have HZ8:=Zh (show w7.heap.size+1=w8.heap.size by rw [hw8];simp)
 obtain ⟨bd,hbd⟩:∃ bd,bd=Qcs nt NC NC N.ar.length s tl:=⟨_,rfl⟩
 have HMR:=Zh (show ∀ V,Below w8.heap.size w8 V→∀ A9 c9,RdI V A9 nt tl→Calls prog 30 #[.pointer (some ⟨g,0,none⟩),.pointer (some ⟨o,0,none⟩),.slice (some ⟨CB,0,none⟩) NC NC,.int .i64 s,.slice A9 nt c9] V (Qlg V N s nt tl bd) from fun V hV A9 c9 hT=>by
  rw [hbd];exact Qfu V g o N ls (some ⟨CB,0,none⟩) NC NC NC cl A9 nt c9 tl s (HG7.out.below (Zb hb8 hV)) (HO7.out.below (Zb hb8 hV)) (HC7.out.below (Zb hb8 hV)) hT hok HMAY.out.part HNC.out (fun _=>HALL.out) ⟨Zn _,by omega⟩ hNC9)
 have HMN:=Zh (show ∀ V,Below w8.heap.size w8 V→∀ A9 c9,RdI V A9 nt tl→Calls prog 31 #[.pointer (some ⟨g,0,none⟩),.pointer (some ⟨o,0,none⟩),.slice (some ⟨CB,0,none⟩) NC NC,.int .i64 s,.slice A9 nt c9] V (MnrP V N s tl bd) from fun V hV A9 c9 hT=>by
  rw [hbd];exact Qjy V g o N ls (some ⟨CB,0,none⟩) NC NC NC cl A9 nt c9 tl s (HG7.out.below (Zb hb8 hV)) (HO7.out.below (Zb hb8 hV)) (HC7.out.below (Zb hb8 hV)) hT hok HMAY.out.part HNC.out (fun _=>HALL.out) ⟨Zn _,by omega⟩ hNC9)
 have HCK:=Zh (show ∀ V,Below w8.heap.size w8 V→Calls prog 32 #[.agg #[.slice A n c,.slice B m d,.slice C k e],.agg #[.slice A n c,.slice B m d,.slice C k e,.slice Q L cq,.slice G L cg,.slice AE NC ce],.int .i64 NC,.int .i64 s,.slice TA nt ct] V (Qhk V bd) from fun V hV=>by
  rw [hbd,HNA.out];exact Qlb A B C AE TA n m k c d e NC NC ce nt ct (.slice A n c) (.slice B m d) (.slice C k e) (.slice Q L cq) (.slice G L cg) s tl V (by omega) (HTL8.out.below hV))
 have HBD:=Zh hbd;have hOK:=Zh hok;have HBX:=Zh (Zr w8.heap.size w8);clear hw8 hb8 hS9 hbd HX7 HG7 HO7 HC7 HQ7 HTL7
 cases bd with
 | some x =>
  obtain ⟨p,kk,cc⟩:=x;have hcc:=rowBad_c HBD.out.symm;unfold Qlg at HMR;unfold MnrP at HMN;unfold Qhk at HCK;obtain ⟨W2,hW2⟩:∃ W2,W2=w8.alloc (.cells #[] 3):=⟨_,rfl⟩;have hb2:Below w8.heap.size w8 W2:=by rw [hW2];exact Qah
  have hown:Own W2 w8.heap.size 3 1 (some ⟨w7.heap.size+1,0,none⟩) 0 0 []:=by rw [hW2,show w7.heap.size+1=w8.heap.size from HZ8.out];exact lit0 (Zn _)
  have hrd:Rds W2 1 TA nt (Qag tl):=(HTL8.out.below (Zb HBX.out hb2)).rdsI;have hsz:w8.heap.size≤W2.heap.size:=hb2.size;have HW2:=Zh hW2;clear hW2
  go_wp2_with (at_builtin;rw [←Hw8.out,←HW2.out];with_reducible refine Qan rfl (.tmp 52) (.tmp 53) 67 rfl 3 _ 1 8 Qbc underlying67 rfl (by omega) rfl rfl hown hrd (Qai _) (by omega) (by omega) hsz ?_)
  intro A5 c5 wb hob hgb _;have hbb:Below w8.heap.size w8 wb:=hb2.trans (Bel.grownOwn (Zr _ _) hgb hown hsz);have ho5:Own wb w8.heap.size 3 1 A5 nt c5 (Qag tl):=by simpa using hob
  have HT5:=Zh (show RdI wb A5 nt tl from ho5.rds.rdI)
  have HBY:=Zh (Zb HBX.out hbb);have HBW:=Zh hbb;clear hown hrd hob hgb hbb ho5 hsz hb2 HW2
  go_wp2_with fail
  with_reducible refine (HMR.out wb HBY.out A5 c5 HT5.out).mono ?_
  rintro r wc ⟨⟨v,rfl,hc⟩,hbc⟩;have HC1:=Zh hc;obtain ⟨tv,xv,rfl⟩:=Qam hc;have HBX:=Zh (Zb HBY.out hbc);clear hc hbc HT5 HBY HMR HBW;obtain ⟨W2,hW2⟩:∃ W2,W2=wc.alloc (.cells #[] 3):=⟨_,rfl⟩;have hb2:Below wc.heap.size wc W2:=by rw [hW2];exact Qah
  have hown:Own W2 wc.heap.size 3 1 (some ⟨wc.heap.size,0,none⟩) 0 0 []:=by rw [hW2,show wc.heap.size=wc.heap.size from rfl];exact lit0 (Zn _)
  have hrd:Rds W2 1 TA nt (Qag tl):=(HTL8.out.below (Zb HBX.out hb2)).rdsI;have hsz:wc.heap.size≤W2.heap.size:=hb2.size;have HW2:=Zh hW2;clear hW2
  go_wp2_with (at_builtin;rw [←HW2.out];with_reducible refine Qan rfl (.tmp 63) (.tmp 64) 67 rfl 3 _ 1 8 Qbc underlying67 rfl (by omega) rfl rfl hown hrd (Qai _) (by omega) (by omega) hsz ?_)
  intro A5 c5 wb hob hgb _;have hbb:Below wc.heap.size wc wb:=hb2.trans (Bel.grownOwn (Zr _ _) hgb hown hsz);have ho5:Own wb wc.heap.size 3 1 A5 nt c5 (Qag tl):=by simpa using hob
  have HT5:=Zh (show RdI wb A5 nt tl from ho5.rds.rdI)
  have HBY:=Zh (Zb HBX.out hbb);have HBW:=Zh hbb;clear hown hrd hob hgb hbb ho5 hsz hb2 HW2
  go_wp2_with fail
  with_reducible refine (HMN.out wb HBY.out A5 c5 HT5.out).mono ?_
  rintro r wd ⟨⟨v,rfl,hc⟩,hbd⟩;have HC2:=Zh hc;obtain ⟨tv2,xv2,rfl⟩:=Qam hc;have HC1:=Zh (HC1.out.below (Zb HBW.out hbd));have HBX:=Zh (Zb HBY.out hbd);clear hc hbd HT5 HBY HMN HBW;obtain ⟨x0,x1,x2⟩:=(HX8.out.below HBX.out HX8.out.lt).three;have y0:wd.cell? ⟨w7.heap.size,0,none⟩=some (.slice A n c):=by rw [(HY8.out.below HBX.out HY8.out.lt).cell];rfl
  have y1:wd.cell? ⟨w7.heap.size,1,none⟩=some (.slice B m d):=by rw [(HY8.out.below HBX.out HY8.out.lt).cell];rfl
  have y2:wd.cell? ⟨w7.heap.size,2,none⟩=some (.slice C k e):=by rw [(HY8.out.below HBX.out HY8.out.lt).cell];rfl
  have y3:wd.cell? ⟨w7.heap.size,3,none⟩=some (.slice Q L cq):=by rw [(HY8.out.below HBX.out HY8.out.lt).cell];rfl
  have y4:wd.cell? ⟨w7.heap.size,4,none⟩=some (.slice G L cg):=by rw [(HY8.out.below HBX.out HY8.out.lt).cell];rfl
  have y5:wd.cell? ⟨w7.heap.size,5,none⟩=some (.slice AE NC ce):=by rw [(HY8.out.below HBX.out HY8.out.lt).cell];rfl
  go_wp2_with fail
  with_reducible refine (HCK.out wd HBX.out).mono ?_
  rintro r we ⟨⟨A4,n4,m4,rfl,h4,h5⟩,hbe⟩;have HC1:=Zh (HC1.out.below hbe);have HC2:=Zh (HC2.out.below hbe);have HR4:=Zh h4;have HBX:=Zh (Zb HBX.out hbe);clear h4 hbe HCK x0 x1 x2 y0 y1 y2 y3 y4 y5;obtain ⟨wf,hwf⟩:∃ wf,wf=we.alloc (.cells #[.slice A4 n4 m4,.int .i64 cc] 48):=⟨_,rfl⟩;have hbf:Below we.heap.size we wf:=by rw [hwf];exact Qah
  have HVr:=Zh (show Blk wf we.heap.size 48 #[.slice A4 n4 m4,.int .i64 cc] by rw [hwf];exact Blk.new _ _ _)
  have HC1:=Zh (HC1.out.below hbf);have HC2:=Zh (HC2.out.below hbf);have HR4:=Zh (HR4.out.below hbf);have HBX:=Zh (Zb HBX.out hbf);have Hwf:=Zh hwf;clear hwf hbf
  go_wp2_with fail
  rw [←Hwf.out];with_reducible refine (Qjl (.iface tv xv) A4 n4 m4 [(p,kk)] cc wf HC1.out HR4.out hcc (Zc (Zb HB8.out HBX.out) (Zn _) HG.out) (by omega)).mono ?_
  rintro r wg ⟨rfl,hbg⟩;have HC2:=Zh (HC2.out.below hbg);have HR4:=Zh (HR4.out.below hbg);have HVr:=Zh (HVr.out.below hbg HVr.out.lt);have HBX:=Zh (Zb HBX.out hbg);obtain ⟨v0,v1,_,_⟩:=HVr.out.two;clear hbg Hwf HC1
  go_wp2_with fail
  with_reducible refine (Qjl (.iface tv2 xv2) A4 n4 m4 [(p,kk)] cc wg HC2.out HR4.out hcc (Zc (Zb HB8.out HBX.out) (Zn _) HG.out) (by omega)).mono ?_
  rintro r wh ⟨rfl,hbh⟩;have HVr:=Zh (HVr.out.below hbh HVr.out.lt);have HBX:=Zh (Zb HBX.out hbh);clear v0 v1 hbh;obtain ⟨v0,v1,_,_⟩:=HVr.out.two
  go_wp2_with fail
  go_ret
  exact ⟨rfl,Zb HB8.out HBX.out⟩
 | none =>
  have hbds:=Qrc HBD.out.symm;obtain ⟨sn,rfl⟩:∃ sn:Nat,s=(sn:Int):=⟨s.toNat,by omega⟩;have HTS:=Zh (show ∀ (i:Nat) (a:Int),tl[i]?=some a→0≤a∧a<(m:Int) from by rw [←HNA.out];exact hbds.2.2)
  have hsm:sn<m:=by rw [←HNA.out];have:=hbds.2.1;omega
  have HLT:=Zh HTL8.out.1;have HRF:=Zh (fun V (hV:Below w8.heap.size w8 V)=>Qww A B C TA n m k c d e nt ct sn N tl V (HH.out.below (Zb HB8.out hV)) hOK.out (HTL8.out.below hV) hsm HTS.out (by omega));unfold Qlg at HMR;unfold MnrP at HMN;unfold Qhk at HCK;clear hbds hsm;obtain ⟨W2,hW2⟩:∃ W2,W2=w8.alloc (.cells #[] 3):=⟨_,rfl⟩;have hb2:Below w8.heap.size w8 W2:=by rw [hW2];exact Qah
  have hown:Own W2 w8.heap.size 3 1 (some ⟨w7.heap.size+1,0,none⟩) 0 0 []:=by rw [hW2,show w7.heap.size+1=w8.heap.size from HZ8.out];exact lit0 (Zn _)
  have hrd:Rds W2 1 TA nt (Qag tl):=(HTL8.out.below (Zb HBX.out hb2)).rdsI;have hsz:w8.heap.size≤W2.heap.size:=hb2.size;have HW2:=Zh hW2;clear hW2
  go_wp2_with (at_builtin;rw [←Hw8.out,←HW2.out];with_reducible refine Qan rfl (.tmp 52) (.tmp 53) 67 rfl 3 _ 1 8 Qbc underlying67 rfl (by omega) rfl rfl hown hrd (Qai _) (by omega) (by omega) hsz ?_)
  intro A5 c5 wb hob hgb _;have hbb:Below w8.heap.size w8 wb:=hb2.trans (Bel.grownOwn (Zr _ _) hgb hown hsz);have ho5:Own wb w8.heap.size 3 1 A5 nt c5 (Qag tl):=by simpa using hob
  have HT5:=Zh (show RdI wb A5 nt tl from ho5.rds.rdI)
  have HBY:=Zh (Zb HBX.out hbb);have HBW:=Zh hbb;clear hown hrd hob hgb hbb ho5 hsz hb2 HW2
  go_wp2_with fail
  with_reducible refine (HMR.out wb HBY.out A5 c5 HT5.out).mono ?_
  rintro r wc ⟨⟨rb,row,rfl,hrb,hrd,_⟩,hbc⟩;have HRB:=Zh (show RdI wc (some ⟨rb,0,none⟩) nt row from hrb.rdI (by rw [hrd.1];exact HLT.out))
  have HRD:=Zh (show Qgm N sn tl row from hrd)
  have HBX:=Zh (Zb HBY.out hbc);clear hrb hrd hbc HT5 HBY HMR HBW;obtain ⟨W2,hW2⟩:∃ W2,W2=wc.alloc (.cells #[] 3):=⟨_,rfl⟩;have hb2:Below wc.heap.size wc W2:=by rw [hW2];exact Qah
  have hown:Own W2 wc.heap.size 3 1 (some ⟨wc.heap.size,0,none⟩) 0 0 []:=by rw [hW2,show wc.heap.size=wc.heap.size from rfl];exact lit0 (Zn _)
  have hrd:Rds W2 1 TA nt (Qag tl):=(HTL8.out.below (Zb HBX.out hb2)).rdsI;have hsz:wc.heap.size≤W2.heap.size:=hb2.size;have HW2:=Zh hW2;clear hW2
  go_wp2_with (at_builtin;rw [←HW2.out];with_reducible refine Qan rfl (.tmp 63) (.tmp 64) 67 rfl 3 _ 1 8 Qbc underlying67 rfl (by omega) rfl rfl hown hrd (Qai _) (by omega) (by omega) hsz ?_)
  intro A5 c5 wb hob hgb _;have hbb:Below wc.heap.size wc wb:=hb2.trans (Bel.grownOwn (Zr _ _) hgb hown hsz);have ho5:Own wb wc.heap.size 3 1 A5 nt c5 (Qag tl):=by simpa using hob
  have HT5:=Zh (show RdI wb A5 nt tl from ho5.rds.rdI)
  have HBY:=Zh (Zb HBX.out hbb);have HBW:=Zh hbb;clear hown hrd hob hgb hbb ho5 hsz hb2 HW2
  go_wp2_with fail
  with_reducible refine (HMN.out wb HBY.out A5 c5 HT5.out).mono ?_
  rintro r wd ⟨⟨row2,rfl,hrd⟩,hbd⟩;obtain rfl:=Qgm.uniq HRD.out (show Qgm N sn tl row2 from hrd) (fun i a ha=>⟨a.toNat,by have:=HTS.out i a ha;omega⟩)
  have HRB:=Zh (HRB.out.below (Zb HBW.out hbd));have HBX:=Zh (Zb HBY.out hbd);have HRN:=Zh (HRD.out.bd hOK.out (fun i a ha=>⟨a.toNat,by have:=HTS.out i a ha;omega⟩));obtain ⟨na,hna⟩:∃ x,x=(Qif row).1:=⟨_,rfl⟩;obtain ⟨nb,hnb⟩:∃ x,x=(Qif row).2:=⟨_,rfl⟩;have HNN:=Zh (show (Qif row).1=na∧(Qif row).2=nb from ⟨hna.symm,hnb.symm⟩)
  rw [←hna,←hnb];clear hrd hbd HT5 HBY HMN HBW hna hnb;obtain ⟨x0,x1,x2⟩:=(HX8.out.below HBX.out HX8.out.lt).three;have y0:wd.cell? ⟨w7.heap.size,0,none⟩=some (.slice A n c):=by rw [(HY8.out.below HBX.out HY8.out.lt).cell];rfl
  have y1:wd.cell? ⟨w7.heap.size,1,none⟩=some (.slice B m d):=by rw [(HY8.out.below HBX.out HY8.out.lt).cell];rfl
  have y2:wd.cell? ⟨w7.heap.size,2,none⟩=some (.slice C k e):=by rw [(HY8.out.below HBX.out HY8.out.lt).cell];rfl
  have y3:wd.cell? ⟨w7.heap.size,3,none⟩=some (.slice Q L cq):=by rw [(HY8.out.below HBX.out HY8.out.lt).cell];rfl
  have y4:wd.cell? ⟨w7.heap.size,4,none⟩=some (.slice G L cg):=by rw [(HY8.out.below HBX.out HY8.out.lt).cell];rfl
  have y5:wd.cell? ⟨w7.heap.size,5,none⟩=some (.slice AE NC ce):=by rw [(HY8.out.below HBX.out HY8.out.lt).cell];rfl
  go_wp2_with fail
  with_reducible refine (HCK.out wd HBX.out).mono ?_
  rintro r we ⟨rfl,hbe⟩;have HRB:=Zh (HRB.out.below hbe);have HBX:=Zh (Zb HBX.out hbe);clear hbe HCK x0 x1 x2 y0 y1 y2 y3 y4 y5;obtain ⟨wf,hwf⟩:∃ wf,wf=we.alloc (.cells #[.slice none 0 0,.int .i64 0] 48):=⟨_,rfl⟩;have hbf:Below we.heap.size we wf:=by rw [hwf];exact Qah
  have HVr:=Zh (show Blk wf we.heap.size 48 #[.slice none 0 0,.int .i64 0] by rw [hwf];exact Blk.new _ _ _)
  have HRB:=Zh (HRB.out.below hbf);have HBX:=Zh (Zb HBX.out hbf);have Hwf:=Zh hwf;clear hwf hbf
  go_wp2_with fail
  rw [←Hwf.out];with_reducible refine (Qop none 0 0 wf).mono ?_
  rintro r wg ⟨rfl,hbg⟩;have HVr:=Zh (HVr.out.below hbg HVr.out.lt);have HRB:=Zh (HRB.out.below hbg);have HBX:=Zh (Zb HBX.out hbg);obtain ⟨v0,v1,_,_⟩:=HVr.out.two;clear hbg Hwf
  go_wp2_with fail
  with_reducible refine (Qop none 0 0 wg).mono ?_
  rintro r wh ⟨rfl,hbh⟩;have HVr:=Zh (HVr.out.below hbh HVr.out.lt);have HRB:=Zh (HRB.out.below hbh);have HBX:=Zh (Zb HBX.out hbh);clear v0 v1 hbh;obtain ⟨v0,v1,_,_⟩:=HVr.out.two;obtain ⟨x0,x1,x2⟩:=(HX8.out.below HBX.out HX8.out.lt).three
  go_wp2_with fail
  with_reducible refine (HRF.out wh HBX.out).mono ?_
  unfold RrwP;rintro r wi ⟨⟨A6,c6,row3,rfl,hr6,hrd6⟩,hbi⟩;obtain rfl:=Qgm.uniq HRD.out hrd6 (fun i a ha=>⟨a.toNat,by have:=HTS.out i a ha;omega⟩);have HR6:=Zh hr6;have HRB:=Zh (HRB.out.below hbi);have HBX:=Zh (Zb HBX.out hbi);have HNR:=Zh (Qtt A6 nt c6 row wi hr6 HRN.out (by omega));rw [HNN.out.1,HNN.out.2] at HNR;clear hr6 hrd6 hbi v0 v1 x0 x1 x2 HRF
  go_wp2_with fail
  with_reducible refine HNR.out.mono ?_
  rintro r w' ⟨rfl,rfl⟩;have HSC:=Zh (Qez (some ⟨rb,0,none⟩) A6 nt nt nt c6 row row wi HRB.out HR6.out (by omega) (by omega));rw [decide_eq_true rfl] at HSC
  go_wp2_with fail
  with_reducible refine HSC.out.mono ?_
  rintro r wj ⟨rfl,kj,hkj⟩;have hbj:Below wi.heap.size wi wj:=by rw [hkj];exact Qbb (Zr _ _) kj
  have e1:(na == na)=true:=by simp
  have e2:(nb == nb)=true:=by simp
  clear hkj
  go_wp2_with fail
  go_ret
  exact ⟨Qay (by simp),Zb HB8.out (Zb HBX.out hbj)⟩
end Go.Proofs.YteaoiabikjnkeaaGreatDoor
namespace Go.Proofs.YteaoiabikjnkeaaGreatDoor
open Go.ChangeShapes Go.WideShapes Go.ChangeAt Go.RowKit Go.Deep
namespace ManyRowsDone
set_option maxRecDepth 100000 in
theorem lifted (os:Os)(started:os.Started)(H:Type)(enc:TypeId×Value→H) :
 ReturnsInHanded {} Tryz.checked os 6 .any (fun w args => (Rows.manyRowsSpec.pre enc Tryz.prog Tryz.f6 [] false w args ∧ laidMetH Tryz.prog [("errors.errorType", Rows.laid_errors_errorType)] w) ∧ sizedMet enc Tryz.prog Tryz.f6 (OpenSpec.ofChange Rows.manyRowsSpec) false w args)
  (Rows.manyRowsSpec.post enc Tryz.prog Tryz.f6 false true false false):=by
 refine returnsInHanded_of_change_and (C := Tryz.checked) (X := fun w _ => laidMetH Tryz.prog [("errors.errorType", Rows.laid_errors_errorType)] w) (fun _ _ _ hh h => h.of_heap hh) own_ started (by kernel_rfl) Tryz.func6
  (ChangeSpec.witness_at (enc := enc) (C := Tryz.checked) (os := os) (X := fun w _ => laidMetH Tryz.prog [("errors.errorType", Rows.laid_errors_errorType)] w) false (Qjw os) #[.agg #[.slice none 0 0, .slice none 0 0, .slice none 0 0], .agg #[.slice none 0 0], .int .i64 0, .slice none 0 0] 8 rfl (by kernel_rfl) (by kernel_rfl) (by kernel_rfl) (by kernel_rfl) (by kernel_rfl) (Qhh os _)) ?_
 intro W base args ds gs before hval0 hW _ hsz0 hL _;have hsz:(DataW.weightsEach Tryz.prog (Tryz.f6.params.toList ++Rows.manyRowsSpec.plain.varTypes Tryz.prog) (ds ++gs)).all (·≤reachBytes)=true:=hsz0;clear hsz0;have hval:∀ (j:Nat) t v,Tryz.f6.params[j]?=some t→args[j]?=some v→Value.okWide Tryz.prog W .any base t v:=hval0;have hW':=hW;obtain ⟨p,q,hA0,hV,rfl,hfz,hnd⟩:=hW;have hA:DataW.TrodAll enc Tryz.prog W 0 (fun _=>true) true Tryz.f6.params.toList args.toList ds p:=hA0;rw [Tryz.params6] at hA hval hsz;obtain ⟨v0,vs0,d0,ds0,p0,q0,hargs,rfl,rfl,h0,r0⟩:=trodAll_cons hA;obtain ⟨v1,vs1,d1,ds1,p1,q1,rfl,rfl,rfl,h1,r1⟩:=trodAll_cons r0;obtain ⟨v2,vs2,d2,ds2,p2,q2,rfl,rfl,rfl,h2,r2⟩:=trodAll_cons r1;obtain ⟨v3,vs3,d3,ds3,p3,q3,rfl,rfl,rfl,h3,r3⟩:=trodAll_cons r2;obtain ⟨rfl,rfl,rfl⟩:=trodAll_nil r3;obtain rfl:args=#[v0,v1,v2,v3]:=by cases args;simp_all
 obtain ⟨rfl,rfl⟩:=trodVars_none hV;obtain ⟨cs0,rfl,_⟩:=okWide_struct Tryz.underlying26 (hval 0 26 v0 rfl rfl);have k0:=h0;have lt0:∀ x∈p0,x.block<W.heap.size:=by obtain ⟨m,hm⟩:=k0;exact DataW.trod_lt m _ _ _ hm
 obtain ⟨A,B,C,n,m,k,c,d,e,N,hcs0,hnet,hk⟩:∃ (A B C:Option Addr) (n m k c d e:Nat) (N:Qap),cs0=#[.slice A n c,.slice B m d,.slice C k e]∧Qcj W A B C n m k N∧k≤9223372036854775807:=by
  obtain ⟨fuel,hf⟩:=h0;obtain ⟨A,B,C,n,m,k,c,d,e,N,e1,e2,e3⟩:=open_net hf;exact ⟨A,B,C,n,m,k,c,d,e,N,Array.toList_inj.1 e1,e2,e3⟩
 subst hcs0;obtain ⟨cs1,rfl,_⟩:=okWide_struct Tryz.underlying29 (hval 1 29 v1 rfl rfl);have k1:=h1;have lt1:∀ x∈p1,x.block<W.heap.size:=by obtain ⟨m,hm⟩:=k1;exact DataW.trod_lt m _ _ _ hm
 obtain ⟨Q,L,cq,ls,hcs1,hpart,hLc⟩:∃ (Q:Option Addr) (L cq:Nat) (ls:List (List Int)),cs1=#[.slice Q L cq]∧RdT W Q L ls∧L≤9223372036854775807:=by
  obtain ⟨fuel,hf⟩:=h1;obtain ⟨Q,L,cq,ls,e1,e2,e3,e4⟩:=Qya hf;exact ⟨Q,L,cq,ls,Array.toList_inj.1 e1,e2,by omega⟩
 subst hcs1;obtain ⟨a2,rfl,rfl,rfl,w2⟩:=open_int Tryz.underlying3 (hval 2 3 v2 rfl rfl) h2;obtain ⟨a3,len3,cap3,rfl⟩:=okWide_slice Tryz.underlying67 (hval 3 67 v3 rfl rfl);have k3:=h3;have lt3:∀ x∈p3,x.block<W.heap.size:=by obtain ⟨m,hm⟩:=k3;exact DataW.trod_lt m _ _ _ hm
 obtain ⟨l3,hl3,hb3,hwf3⟩:∃ l:List Int,RdI W a3 len3 l∧len3≤4000000000000000000∧∀ a∈l,(Lit.int .i64 a).wf=true:=by
  obtain ⟨fuel,hf⟩:=h3;obtain ⟨l,hl,_,_,hs,hwf⟩:=Qib Tryz.underlying67 Tryz.underlying3 (by kernel_rfl) hf;refine ⟨l,hl,?_,hwf⟩
  rcases hs with h|⟨el,sp,hx,hel⟩
  · omega
  · have:=sized_slice hsz (j:=3) (t:=67) (e:=3) (elems:=el) (spare:=sp) rfl (by simpa using hx) Tryz.underlying67
    rw [show Tryz.prog.bytesOf 3=8 by kernel_rfl] at this
    simp only [reachBytes] at this;omega
 clear hA0 hval0;have hg:=Qgh hL;refine (Qnn A B C Q n m k c d e L cq N ls a2 a3 len3 cap3 l3 W hnet hk hpart hLc hl3 hb3 hg).mono fun e W' ⟨he,bel⟩=>?_
 subst he;exact ⟨_,rfl,_,_,_,[],_,[],hW',trodAll_mk1 (shut_bool Tryz.underlying4 _),(trodAll_cons_mk (Below.trod Qnf (by kernel_rfl) (of_decide_eq_true (by kernel_rfl)) k0 bel lt0) (trodAll_cons_mk (Below.trod Qnf (by kernel_rfl) (of_decide_eq_true (by kernel_rfl)) k1 bel lt1) (trodAll_cons_mk (shut_int Tryz.underlying3 w2) (trodAll_cons_mk (Below.trod Qnf (by kernel_rfl) (of_decide_eq_true (by kernel_rfl)) k3 bel lt3) trodAll_mk0)))),rfl,bel.frame _,fun h=>by cases h⟩
theorem jf0:Rows.manyRowsRow.wf (OpenSpec.ofChange Rows.manyRowsSpec)=true:=by kernel_rfl
theorem jf1:laidOutB Tryz.prog=true:=by kernel_rfl
theorem jf2:mapsRowed Tryz.prog=true:=by kernel_rfl
theorem jf3:Tryz.f6.params.all (Tryz.prog.readableRec ·)=true:=by kernel_rfl
theorem jf4:namedTie Tryz.prog Rows.manyRowsRow.named Rows.manyRowsSpec.vars=true:=by kernel_rfl
theorem jf5:(Rows.manyRowsRow.stops == [])=true:=by kernel_rfl
theorem jf6:(Tryz.prog.stops == [])=true:=by kernel_rfl
theorem jf7:(Rows.manyRowsRow.knobs == [])=true:=by kernel_rfl
theorem jf8:(Tryz.prog.stopKnobs == [])=true:=by kernel_rfl
theorem jf9:(Rows.manyRowsRow.inPlace == Tryz.prog.inPlace 6)=true:=by kernel_rfl
theorem jf10:(Rows.manyRowsRow.unfollowed == Tryz.prog.unfollowed 6)=true:=by kernel_rfl
theorem jf11:(Rows.manyRowsRow.recurses == Tryz.prog.recurses 6)=true:=by kernel_rfl
theorem jf12:(Rows.manyRowsRow.named == Tryz.prog.varsNamed 6)=true:=by kernel_rfl
theorem jf13:(Rows.manyRowsRow.maps == (Tryz.f6.params.toList ++Rows.manyRowsSpec.plain.varTypes Tryz.prog).any (Tryz.prog.mapsRec ·))=true:=by kernel_rfl
theorem jf14:(Rows.manyRowsRow.ifaces == (Tryz.f6.params.toList ++Rows.manyRowsSpec.plain.varTypes Tryz.prog).any (Tryz.prog.ifacesRec ·))=true:=by kernel_rfl
theorem jf15:(Rows.manyRowsRow.mapsOut == Tryz.prog.mapsAmong Tryz.f6.resultTypes.toList)=true:=by kernel_rfl
theorem jf16:(Rows.manyRowsRow.loops == (Tryz.f6.params.toList ++Rows.manyRowsSpec.plain.varTypes Tryz.prog).any (Tryz.prog.loopsFrom ·))=true:=by kernel_rfl
theorem jf17:(Rows.manyRowsRow.wideKeys == (Tryz.f6.params.toList ++Rows.manyRowsSpec.plain.varTypes Tryz.prog ++Tryz.f6.resultTypes.toList).any (Tryz.prog.wideKeysFrom ·))=true:=by kernel_rfl
theorem jf18:Rows.manyRowsSpec.vars.all (Tryz.prog.varReadable ·)=true:=by kernel_rfl
theorem jf19:Tryz.f6.resultTypes.all (fun t=>Tryz.prog.readableRec t && decide (t<Tryz.prog.types.size))=true:=by kernel_rfl
theorem jf20:(Rows.manyRowsRow.ifacesOut == Tryz.f6.resultTypes.toList.any (Tryz.prog.ifacesRec ·))=true:=by kernel_rfl
theorem jf21:(Rows.manyRowsRow.loopsOut == Tryz.f6.resultTypes.toList.any (Tryz.prog.loopsFrom ·))=true:=by kernel_rfl
theorem jf22:(Rows.manyRowsRow.plainKeys == Tryz.prog.plainKeys)=true:=by kernel_rfl
theorem jf23:Rows.manyRowsRow.shortTexts.isNone=true:=by kernel_rfl
theorem jf24:Tryz.prog.stopsHeard=true:=by kernel_rfl
theorem jf25:Tryz.prog.mayEnter=true:=by kernel_rfl
theorem jf26:(Rows.manyRowsRow.lifted == Tryz.prog.liftsFinal)=true:=by kernel_rfl
theorem jf27:(Tryz.prog.make == some Rows.manyRowsRow.make)=true:=by kernel_rfl
theorem jf28:(Rows.manyRowsRow.kinds == (if Rows.manyRowsRow.domain.isEmpty then [] else Tryz.f6.params.toList.map fun t=>match Tryz.prog.underlying t with|some (.int k)=>some k|_=>none))=true:=by kernel_rfl
theorem jf29:(Rows.manyRowsRow.pinned == Rows.manyRowsRow.pinnedBy)=true:=by kernel_rfl
theorem jf30:(Rows.manyRowsRow.veiled == (Tryz.f6.params.toList ++Rows.manyRowsSpec.plain.varTypes Tryz.prog ++Tryz.f6.resultTypes.toList).any (Tryz.prog.veiledRec ·))=true:=by kernel_rfl
theorem jf31:Rows.manyRowsRow.veiledFits Tryz.prog Tryz.f6.params.toList (Tryz.f6.params.toList ++Rows.manyRowsSpec.plain.varTypes Tryz.prog ++Tryz.f6.resultTypes.toList)=true:=by kernel_rfl
set_option maxRecDepth 100000 in
theorem closed:joinedFacts Tryz.prog 6 Tryz.f6 Rows.manyRowsSpec Rows.manyRowsRow=true:=by
 simp only [joinedFacts,Bool.and_eq_true];exact ⟨⟨⟨⟨⟨⟨⟨⟨⟨⟨⟨⟨⟨⟨⟨⟨⟨⟨⟨⟨⟨⟨⟨⟨⟨⟨⟨⟨⟨⟨⟨jf0,jf1⟩,jf2⟩,jf3⟩,jf4⟩,jf5⟩,jf6⟩,jf7⟩,jf8⟩,jf9⟩,jf10⟩,jf11⟩,jf12⟩,jf13⟩,jf14⟩,jf15⟩,jf16⟩,jf17⟩,jf18⟩,jf19⟩,jf20⟩,jf21⟩,jf22⟩,jf23⟩,jf24⟩,jf25⟩,jf26⟩,jf27⟩,jf28⟩,jf29⟩,jf30⟩,jf31⟩
theorem named : Tryz.prog.funcNamed "roundsman/roundsmanlaw23.ManyRows" = some 6 := by kernel_rfl
theorem inst:Tryz.f6.isInstance Tryz.prog Rows.manyRowsRow.origin Rows.manyRowsRow.targs:=of_decide_eq_true (by kernel_rfl)
theorem wrap:Tryz.f6.isWrapper Tryz.prog Rows.manyRowsRow.wrapper Rows.manyRowsRow.mainSum:=by unfold Func.isWrapper;rw [if_neg (of_decide_eq_false (by kernel_rfl))];exact ⟨rfl,rfl⟩
theorem over:Rows.ManyRowsSaid :=
 OpenClaim.holds_of_wide 6 Tryz.f6 rfl rfl rfl rfl rfl rfl rfl ⟨rfl,rfl,rfl,rfl,rfl⟩ rfl rfl rfl rfl rfl named Tryz.func6 closed inst wrap
  (fun os started H enc _=>lifted os started H enc)
theorem byText:Rows.manyRowsRow.wfByText (OpenSpec.ofChange Rows.manyRowsSpec)=true:=by kernel_rfl
theorem mainIs : Tryz.prog.mainIs = some (((true, "50a2035def9af4675d1cabe8bb01769292a43cd0b3e8ccc53597c94666fbfc99") : Bool × String).1, ((true, "50a2035def9af4675d1cabe8bb01769292a43cd0b3e8ccc53597c94666fbfc99") : Bool × String).2.toList) := by kernel_rfl
theorem looksL:true=Tryz.prog.looks []:=by kernel_rfl
theorem goes:false=Rows.manyRowsRow.goesBy Tryz.prog:=by kernel_rfl
theorem proved:Rows.ManyRowsCardSaid :=
 Claim7.holds_tied_plain_at .later [] [.handle] true (true, "50a2035def9af4675d1cabe8bb01769292a43cd0b3e8ccc53597c94666fbfc99") true
  over (fun _ h=>by cases h) byText (fun _ h=>by cases h) manyRows_row_tie rfl ⟨rfl,rfl⟩ mainIs rfl
  (fun f fn hf hfn=>by
   obtain rfl:f=6:=Option.some.inj (named.symm.trans hf) |>.symm
   obtain rfl:fn=Tryz.f6:=(Option.some.inj (Tryz.func6.symm.trans hfn)).symm
   exact ⟨looksL,fun j t ht=>by
    rw [Tryz.params6] at ht
    rcases j with _|_|_|_|j
    · obtain rfl:t=26:=by simpa using ht.symm
      exact (show Tryz.prog.wantsStandIn 26=false by kernel_rfl)
    · obtain rfl:t=29:=by simpa using ht.symm
      exact (show Tryz.prog.wantsStandIn 29=false by kernel_rfl)
    · obtain rfl:t=3:=by simpa using ht.symm
      exact (show Tryz.prog.wantsStandIn 3=false by kernel_rfl)
    · obtain rfl:t=67:=by simpa using ht.symm
      exact (show Tryz.prog.wantsStandIn 67=false by kernel_rfl)
    · simp at ht⟩)
  goes
#print axioms proved
end ManyRowsDone
end Go.Proofs.YteaoiabikjnkeaaGreatDoor
