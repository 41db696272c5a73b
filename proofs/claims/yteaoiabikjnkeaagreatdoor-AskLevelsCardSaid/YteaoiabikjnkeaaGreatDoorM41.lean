/- Parts of the proof: Ak, Pe, Sf, Open. -/
import Derived.Test.YteaoiabikjnkeaaGreatDoorM1
import Derived.Test.YteaoiabikjnkeaaGreatDoorM3
import Derived.Test.YteaoiabikjnkeaaGreatDoorM15
import Derived.Test.YteaoiabikjnkeaaGreatDoorM25
import Derived.Test.YteaoiabikjnkeaaGreatDoorM38
import Derived.Test.YteaoiabikjnkeaaGreatDoorM39
import Derived.Test.YteaoiabikjnkeaaGreatDoorM40
import Derived.Test.YteaoiabikjnkeaaGreatDoorRows
import Derived.ProofKit
import Derived.OpenShut
import Derived.Deep.Slices
import Derived.SizedLaws
namespace Go.Proofs.YteaoiabikjnkeaaGreatDoor
open Go.RowKit Go.Extern.Stop Go.Stop Go.Extern
attribute [local go_sem ↓] Go.wp_at_zero Go.wp_at_succ
def chM:List Qma:=[(0,0,1),(1,1,3),(0,3,4)]
def chAt:Nat→Int | 0=>0 | 1=>1 | 2=>3 | _=>4
def chSm:Nat→Int | 0=>0 | 1=>11 | 2=>33 | _=>44
theorem Qoy (v a b:Int)(h:inR 6 v∧inR 6 a∧inR 6 b):lvI Qaq.vs.length Qbc v a b=((Qdd Qbc v [a,b]:Nat):Int):=by unfold lvI; exact if_pos h
theorem ch_hopsP:HopsP Qaq Qbc 0 4 chM chAt chSm 44:=by
 refine ⟨by decide,rfl,rfl,rfl,rfl,fun i x1 x2 x3 hx=>?_⟩
 match i,hx with
 | 0,hx =>
  cases hx
  refine ⟨rfl,by decide,by decide,rfl,?_,⟨by decide,by decide⟩,fun v hv=>?_⟩
  · rw [Qgz 0 (by omega),Qqh,Qoy _ _ _ ⟨⟨by decide,by decide⟩,⟨by decide,by decide⟩,by decide,by decide⟩,Qks (x:=((0:Nat):Int)+1) (by simp) rfl]
  · obtain rfl:=Qwp (a:=0) (by omega) hv
    exact ⟨⟨by decide,by decide⟩,by decide⟩
 | 1,hx =>
  cases hx
  refine ⟨rfl,by decide,by decide,rfl,?_,⟨by decide,by decide⟩,fun v hv=>?_⟩
  · rw [Qgz 1 (by omega),Qgz 0 (by omega),Qqh,Qoy _ _ _ ⟨⟨by decide,by decide⟩,⟨by decide,by decide⟩,by decide,by decide⟩,ch_up (by decide)]
  · obtain rfl:=Qxn hv
    exact ⟨⟨by decide,by decide⟩,by decide⟩
 | 2,hx =>
  cases hx
  refine ⟨rfl,by decide,by decide,rfl,?_,⟨by decide,by decide⟩,fun v hv=>?_⟩
  · rw [Qgz 3 (by omega),Qgz 0 (by omega),Qqh,Qoy _ _ _ ⟨⟨by decide,by decide⟩,⟨by decide,by decide⟩,by decide,by decide⟩,Qks (x:=4) (by decide) (by decide)]
  · obtain rfl:=Qwp (a:=3) (by omega) hv
    exact ⟨⟨by decide,by decide⟩,by decide⟩
 | k+3,hx=>simp [chM] at hx
set_option maxRecDepth 20000 in
set_option maxHeartbeats 4000000 in
theorem Qmc (w:World)(hg:w.cell? ⟨0,0,none⟩=some Qnk):Calls Tryz.prog 15 #[] w fun e w'=>e=.returned (.bool true)∧Below w.heap.size w w':=by
 have HG:=Zh hg;have hg0:=Qak hg;simp only at hg0;clear hg
 go_enter Tryz.func15,Tryz.ntmps15
 go_wp2_with fail
 with_reducible refine (chain_ok w).mono ?_
 unfold ChnP;rintro r w1 ⟨⟨A,B,C,Q,ca,cb,cc,cq,rfl,hn1,hq1⟩,hb1⟩;have HN1:=Zh hn1;have HQ1:=Zh hq1;have HB1:=Zh hb1;clear hn1 hq1 hb1
 go_wp2_with fail
 (refine Qad ?_; intro w2 hw2)
 have hb2:Below w1.heap.size w1 w2:=by rw [hw2]; exact Qah
 have HX:=Zh (show Blk w2 w1.heap.size 26 #[.slice A 6 ca,.slice B 5 cb,.slice C 3 cc] by rw [hw2]; exact Qba)
 have HY:=Zh (show Blk w2 (w1.heap.size+1) 29 #[.slice Q 1 cq] by rw [hw2]; exact Qba)
 clear hw2;have HB2:=Zh (Zb HB1.out hb2);have HN2:=Zh (HN1.out.below hb2);have HQ2:=Zh (HQ1.out.below hb2);clear hb2 HN1 HQ1 HB1;with_reducible refine (Qnp A B C Q 6 5 3 ca cb cc 1 cq Qaq Qbc w2 HN2.out Qcu HQ2.out Qci (by rw [Qlq]; omega)).mono ?_
 unfold Qof;rintro r w3 ⟨⟨g,o,CB,NC,cl,F,rfl,hNC,hG,hF,hO,hC,hA⟩,hb3⟩;rw [Qlq] at hNC;subst hNC;obtain rfl:=hA.uniq Qkc;have HB3:=Zh (Zb HB2.out hb3);have HX3:=Zh (HX.out.below hb3 HX.out.lt);have HY3:=Zh (HY.out.below hb3 HY.out.lt);have HN3:=Zh (HN2.out.below hb3);have HQ3:=Zh (HQ2.out.below hb3);have HG3:=Zh hG.rd;have HO3:=Zh (hO.le (Qbd _ _));have HC3:=Zh (show RdI w3 (some ⟨CB,0,none⟩) 1 [12] from ⟨hC.1,fun i x hx=>by obtain ⟨b,o,e,h1⟩:=hC.2 i x hx; exact ⟨b,o,e,Qbd _ _ _ _ h1⟩⟩)
 obtain ⟨_,_,v12,e12,hv12,hc12⟩:=HC3.out.at_ (i:=0) (by omega)
 cases e12
 cases hv12
 have hS1:Qbx (Qae Qaq.ar Qbc)≤1000000000:=by rw [Qlq]; omega
 have HD1:=Zh (fun V (hV:Below w3.heap.size w3 V)=>show Calls Tryz.prog 19 #[.pointer (some ⟨g,0,none⟩),.pointer (some ⟨o,0,none⟩),.slice (some ⟨CB,0,none⟩) 1 1,.int .i64 0,.int .i64 4] V _ from Qir V g o Qaq Qbc (some ⟨CB,0,none⟩) 1 1 [12] 0 4 _ _ (HG3.out.below hV) (HO3.out.below hV) (HC3.out.below hV) Qcu Qci Qkc ⟨by omega,by omega⟩ hS1 rfl rfl)
 have HD2:=Zh (fun V (hV:Below w3.heap.size w3 V)=>show Calls Tryz.prog 54 #[.pointer (some ⟨g,0,none⟩),.pointer (some ⟨o,0,none⟩),.slice (some ⟨CB,0,none⟩) 1 1,.int .i64 0,.int .i64 4] V _ from Qnv V g o Qaq Qbc (some ⟨CB,0,none⟩) 1 1 [12] 0 4 _ _ (HG3.out.below hV) (HO3.out.below hV) (HC3.out.below hV) Qcu Qci Qkc ⟨by omega,by omega⟩ hS1 rfl rfl)
 have HD3:=Zh (fun V (hV:Below w3.heap.size w3 V)=>Qgi V g o Qaq Qbc (some ⟨CB,0,none⟩) 1 1 1 0 5 1 5 (HG3.out.below hV) (HO3.out.below hV) Qlq.symm (by omega) (by decide));have HD4:=Zh (fun V (hV:Below w3.heap.size w3 V)=>show Calls Tryz.prog 19 #[.pointer (some ⟨g,0,none⟩),.pointer (some ⟨o,0,none⟩),.slice (some ⟨CB,0,none⟩) 1 1,.int .i64 4,.int .i64 0] V _ from Qir V g o Qaq Qbc (some ⟨CB,0,none⟩) 1 1 [12] 4 0 _ _ (HG3.out.below hV) (HO3.out.below hV) (HC3.out.below hV) Qcu Qci Qkc ⟨by omega,by omega⟩ hS1 rfl rfl)
 have HL1:=Zh (fun V (hV:Below w3.heap.size w3 V)=>ch_lv1 ▸ Qoy 2 0 5 ⟨⟨by decide,by decide⟩,⟨by decide,by decide⟩,by decide,by decide⟩ ▸ Qhb V o Qaq.ar Qbc Qaq.vs.length 2 0 5 (HO3.out.below hV) Qci (by decide));have HL2:=Zh (fun V (hV:Below w3.heap.size w3 V)=>ch_lv0 ▸ Qoy 2 3 5 ⟨⟨by decide,by decide⟩,⟨by decide,by decide⟩,by decide,by decide⟩ ▸ Qhb V o Qaq.ar Qbc Qaq.vs.length 2 3 5 (HO3.out.below hV) Qci (by decide));have HPC:=Zh (fun V (hV:Below w3.heap.size w3 V) f u=>Qrr V g o Qaq Qbc (some ⟨CB,0,none⟩) 1 1 [12] 1 f u (HG3.out.below hV) (HO3.out.below hV) (HC3.out.below hV) Qcu Qci Qkc hS1);have HNW:=Zh (fun V (hV:Below w3.heap.size w3 V)=>Qkw A B C Q 6 5 3 ca cb cc 1 cq Qaq Qbc V (HN3.out.below hV) Qcu (HQ3.out.below hV) Qci hS1);clear hG hF hO hC hA hb3 HN2 HQ2 HB2 HX HY
 go_wp2_with fail
 with_reducible refine (HD1.out w3 (Zr _ _)).mono ?_
 rintro r w4 ⟨⟨v,rfl,hv⟩,hb4⟩;obtain rfl:v=44:=hv.uniq (.inr ⟨by decide,Qwv⟩);clear hv HD1 hc12
 go_wp2_with fail
 with_reducible refine (HD2.out w4 hb4).mono ?_
 unfold SrcP;rintro r w5 ⟨⟨v,A9,n9,c9,hs,rfl,_,hrun,hh,hn9⟩,hb5⟩;obtain ⟨rfl,hmap⟩:=ch_run hrun;rw [hmap,show ([(0,0,1),(1,1,3),(0,3,4)]:List Qma)=chM from rfl] at hh
 obtain rfl:n9=3:=by rw [←hh.1]; rfl
 have hb5':=Zb hb4 hb5;have HH5:=Zh hh;clear hrun hmap hh hn9 HD2 hb4 hb5
 go_wp2_with fail
 (refine Qad ?_; intro w6 hw6)
 have hb6:Below w5.heap.size w5 w6:=by rw [hw6]; exact Qah
 have HF6:=Zh (show Blk w6 w5.heap.size 124 #[.int .i64 44,.slice A9 3 c9] by rw [hw6]; exact Qba)
 clear hw6;have hb6':=Zb hb5' hb6;have HH6:=Zh (HH5.out.le (Le.below hb6));clear hb6 hb5' HH5;with_reducible refine (HD3.out w6 hb6').mono ?_
 rintro r w7 ⟨⟨v7,rfl,hch7⟩,hb7⟩;have hb7':=Zb hb6' hb7;have HH7:=Zh (HH6.out.le (Le.below hb7));have HF7:=Zh (HF6.out.below hb7 HF6.out.lt);have HCH7:=Zh hch7;obtain ⟨tv7,xv7,rfl⟩:=Qbq hch7;clear hch7 hb7 hb6' HH6 HF6 HD3
 go_wp2_with fail
 with_reducible refine (HD4.out w7 hb7').mono ?_
 rintro r w8 ⟨⟨v,rfl,hv⟩,hb8⟩;obtain rfl:=ch_run0 hv;have HB8:=Zh (Zb hb7' hb8);have HH8:=Zh (HH7.out.le (Le.below hb8));have HF8:=Zh (HF7.out.below hb8 HF7.out.lt);have HCH8:=Zh (HCH7.out.below hb8);have HX8:=Zh (HX3.out.below HB8.out HX3.out.lt);have HY8:=Zh (HY3.out.below HB8.out HY3.out.lt);clear hv hb8 hb7' HH7 HF7 HCH7 HD4 HX3 HY3
 have HSX:=Zh (show ∀ V,Below w8.heap.size w8 V→V.cell? ⟨w1.heap.size,0,none⟩=some (.slice A 6 ca)∧V.cell? ⟨w1.heap.size,1,none⟩=some (.slice B 5 cb)∧V.cell? ⟨w1.heap.size,2,none⟩=some (.slice C 3 cc)∧V.cell? ⟨w1.heap.size+1,0,none⟩=some (.slice Q 1 cq)∧V.cell? ⟨w5.heap.size,0,none⟩=some (.int .i64 44)∧V.cell? ⟨w5.heap.size,1,none⟩=some (.slice A9 3 c9) from fun V hV=>by
  have hX':=HX8.out.below hV HX8.out.lt;have hY':=HY8.out.below hV HY8.out.lt;have hF':=HF8.out.below hV HF8.out.lt;exact ⟨by rw [hX'.cell]; rfl,by rw [hX'.cell]; rfl,by rw [hX'.cell]; rfl,by rw [hY'.cell]; rfl,by rw [hF'.cell]; rfl,by rw [hF'.cell]; rfl⟩)
 go_wp2_with fail
 refine wp_region_held_drew (S:=fun V=>Below w8.heap.size w8 V) (by kernel_rfl) (Zr _ _).drew (fun _=>?_);refine tz 0 68 ?_;refine tz 1 69 ?_;refine tz 2 70 ?_;refine tz 3 71 ?_;refine tz 4 72 ?_;refine tz 5 73 ?_;refine tz 6 74 ?_;refine tz 7 75 ?_;refine tz 8 76 ?_;refine tz 9 77 ?_;refine tz 10 78 ?_;refine tz 11 79 ?_;refine tz 12 80 ?_;refine tz 13 81 ?_;refine tz 14 82 ?_;refine tz 15 83 ?_;refine tz 16 84 ?_;refine tz 17 85 ?_;refine tz 18 86 ?_;refine tz 20 88 ?_;refine tz 21 89 ?_;refine tz 22 90 ?_;refine Zk 19 (fun K hK=>?_);go_simp;with_reducible refine (HNW.out _ (Zb HB8.out (Zr _ _).drew)).mono ?_
 unfold Qrl;rintro r w9 ⟨G,cg,AE,ce,EL,rfl,hG9,hE9,hEl,hEP,hb9⟩;have hb9':Below w8.heap.size w8 w9:=(Zr _ _).drew.trans hb9;have HO9:=Zh (show OvD w9 Q G AE 1 EL.length Qaq Qbc EL from ⟨HQ3.out.below (Zb HB8.out hb9'),hG9,hE9,rfl,hEl,hEP,by rw [hEl,Qlq]; omega⟩)
 obtain ⟨S9,hS9⟩:∃ S,S=EL.length:=⟨_,rfl⟩;rw [←hS9] at HO9 ⊢;clear hG9 hE9 hEl hEP hb9 hS9 HNW;go_simp;refine hK.out _ _ hb9' (fun _=>?_);clear hK K;refine Zk 23 (fun K hK=>?_);go_simp;with_reducible refine (of21_ok A9 3 c9 chM w9 (HH8.out.le (Le.below hb9')) (by omega)).mono ?_
 rintro r wa ⟨⟨Aa,ca',rfl,hha⟩,hba⟩;have hba':=Zb hb9' hba;have HOa:=Zh (HO9.out.below hba);have HHa:=Zh hha;go_simp;refine hK.out _ _ hba' (fun _=>?_);clear hK K hba hha HO9 hb9';refine Zk 24 (fun K hK=>?_);go_simp;with_reducible refine (show Calls Tryz.prog 55 #[.agg #[.slice A 6 ca,.slice B 5 cb,.slice C 3 cc],.agg #[.slice A 6 ca,.slice B 5 cb,.slice C 3 cc,.slice Q 1 cq,.slice G 1 cg,.slice AE S9 ce],.slice (some ⟨CB,0,none⟩) 1 1,.int .i64 0,.int .i64 4,.int .i64 44,.slice Aa 3 ca'] wa _ from Quz A B C Q G AE 6 5 3 ca cb cc 1 cq cg S9 ce Qaq Qbc EL (some ⟨CB,0,none⟩) 1 1 [12] 0 4 44 Aa 3 ca' chM chAt chSm _ _ wa (HN3.out.below (Zb HB8.out hba')) Qcu Qci HOa.out (HC3.out.below (Zb HB8.out hba')) Qkc HHa.out (by omega) rfl rfl (by omega) (by decide) ch_hopsP).mono ?_
 rintro r wb ⟨rfl,hbb⟩;have hbb':=Zb hba' hbb;go_simp;refine hK.out _ _ hbb' (fun _=>?_);clear hK K hbb hba' HOa HHa HH8;refine tz 25 93 ?_;refine tz 26 94 ?_;refine tz 27 95 ?_;refine tz 28 96 ?_;refine tz 29 97 ?_;refine tz 30 98 ?_;refine tz 31 99 ?_;refine tz 32 100 ?_;refine tz 33 101 ?_;refine Zk 34 (fun K hK=>?_);go_simp;with_reducible refine (Qvq (⟨#[97,115,107]⟩:ByteArray) 1 5 wb).mono ?_
 rintro r wc ⟨_,rfl,⟨A4,n4,m4,rfl,h4,h5⟩,hbc⟩;have hbc':=Zb hbb' hbc;have HR4:=Zh h4;go_simp;refine hK.out _ _ hbc' (fun _=>?_);clear hK K hbc hbb' h4;refine Zk 35 (fun K hK=>?_);go_simp;with_reducible refine (Qhs (.iface tv7 xv7) A4 n4 m4 [((⟨#[97,115,107]⟩:ByteArray),1)] 5 wc (HCH8.out.below hbc') HR4.out (by omega) (Zc (Zb HB3.out (Zb HB8.out hbc')) (Zn _) HG.out) (by omega)).mono ?_
 rintro r wd ⟨rfl,hbd⟩;have hbd':=Zb hbc' hbd;go_simp;refine hK.out _ _ hbd' (fun _=>?_);clear hK K hbd hbc' HR4;refine tz 36 104 ?_;refine tz 37 105 ?_;refine tz 38 106 ?_;refine tz 39 107 ?_;refine tz 40 108 ?_;refine tz 41 109 ?_;refine tz 42 110 ?_;refine tz 43 111 ?_;refine tz 44 112 ?_;refine tz 45 113 ?_;refine tz 46 114 ?_;refine Zk 47 (fun K hK=>?_);go_simp;with_reducible refine (HL1.out wd (Zb HB8.out hbd')).mono ?_
 rintro r we ⟨rfl,hbe⟩;have hbe':=Zb hbd' hbe;go_simp;refine hK.out _ _ hbe' (fun _=>?_);clear hK K hbe hbd';refine tz 48 116 ?_;refine tz 49 117 ?_;refine tz 50 118 ?_;refine tz 51 119 ?_;refine Zk 52 (fun K hK=>?_);go_simp;with_reducible refine (HL2.out we (Zb HB8.out hbe')).mono ?_
 rintro r wf ⟨rfl,hbf⟩;have hbf':=Zb hbe' hbf;go_simp;refine hK.out _ _ hbf' (fun _=>?_);clear hK K hbf hbe';refine tz 53 121 ?_;refine tz 54 122 ?_;refine tz 55 123 ?_;refine tz 56 124 ?_;refine tz 57 125 ?_;refine tz 58 126 ?_;refine tz 59 127 ?_;refine Zk 60 (fun K hK=>?_);go_simp;with_reducible refine (HPC.out wf (Zb HB8.out hbf') 1 3).mono ?_
 unfold AprR;rintro r wg ⟨⟨v,rfl,hv⟩,hbg⟩;obtain rfl:=Qxn hv;have hbg':=Zb hbf' hbg;go_simp;refine hK.out _ _ hbg' (fun _=>?_);clear hK K hbg hbf' hv;refine tz 61 129 ?_;refine tz 62 130 ?_;refine tz 63 131 ?_;refine tz 64 132 ?_;refine tz 65 133 ?_;refine tz 66 134 ?_;refine tz 67 135 ?_;refine Zk 68 (fun K hK=>?_);go_simp;with_reducible refine (HPC.out wg (Zb HB8.out hbg') 1 2).mono ?_
 unfold AprR;rintro r wh ⟨⟨v,rfl,hv⟩,hbh⟩;obtain rfl:=ch_prc2 hv;have hbh':=Zb hbg' hbh;go_simp;refine hK.out _ _ hbh' (fun _=>?_);clear hK K hbh hbg' hv;refine tz 69 137 ?_;refine tz 70 138 ?_;refine tz 71 0 ?_;refine wpAnyH_done (by kernel_rfl) ?_ _
 go_wp2_with fail
 go_ret
 exact ⟨rfl,Zb HB3.out (Zb HB8.out hbh')⟩
end Go.Proofs.YteaoiabikjnkeaaGreatDoor
namespace Go.Proofs.YteaoiabikjnkeaaGreatDoor
open Go.RowKit
attribute [local go_sem ↓] Go.wp_at_zero Go.wp_at_succ
theorem Qrq {n:Nat} {p:Option (List Int)} {l:List Int} (h:Qeu n p l=0):Qft n l∧∀ q,p=some q→Qds q l:=by
 unfold Qeu at h
 split at h
 · cases h
 · split at h
   · assumption
   · cases h
set_option maxHeartbeats 2000000 in
set_option maxRecDepth 20000 in
theorem Qnq (Q:Option Addr)(n L cq:Nat) (ls:List (List Int)) (w:World) (h:RdT w Q L ls) :
 Calls Tryz.prog 113 #[.int .i64 n,.agg #[.slice Q L cq],.slice none 0 0] w fun e w'=>Qbt (Qay n ls) e∧Below w.heap.size w w':=by
 have HT:=Zh h;clear h
 by_cases q0:(n:Int) > 4096
 · go_enter Tryz.func113,Tryz.ntmps113
   go_wp2_with fail
   (refine Qad ?_; intro w5 hw5)
   have hB5:Blk w5 (w.heap.size+1) 48 #[.slice none 0 0,.int .i64 0]:=by rw [hw5]; exact Qba
   have hb5:Below w.heap.size w w5:=by rw [hw5]; exact Qah
   clear hw5;with_reducible refine (Qax _ _ _ _).mono ?_
   rintro e w2 ⟨⟨A4,n4,m4,rfl,hg4⟩,hb⟩;have hB2:=Blk.below hB5 hb hB5.lt;obtain ⟨c0,c1,f0,f1⟩:=hB2.two;have hb2:Below w.heap.size w w2:=Zb hb5 hb
   go_wp2_with fail
   refine bodyPost_ret (v:=.agg #[.slice A4 n4 m4,.int .i64 4]) (by simp [results,Tryz.results113,go_sem,c0,c1]) rfl ?_
   first | exact ⟨Qbt.no (by decide),Qah⟩ | exact ⟨Qda.no (Wg.mono (B:=w5.heap.size) (Wg.setCell (Wg.setCell hg4 hB5.lt _) hB5.lt _) hb5.size) (by decide),Qah⟩
 by_cases q1:(L:Int) > 6
 · go_enter Tryz.func113,Tryz.ntmps113
   go_wp2_with fail
   (refine Qad ?_; intro w5 hw5)
   have hB5:Blk w5 (w.heap.size+1) 48 #[.slice none 0 0,.int .i64 0]:=by rw [hw5]; exact Qba
   have hb5:Below w.heap.size w w5:=by rw [hw5]; exact Qah
   clear hw5;with_reducible refine (Qax _ _ _ _).mono ?_
   rintro e w2 ⟨⟨A4,n4,m4,rfl,hg4⟩,hb⟩;have hB2:=Blk.below hB5 hb hB5.lt;obtain ⟨c0,c1,f0,f1⟩:=hB2.two;have hb2:Below w.heap.size w w2:=Zb hb5 hb
   go_wp2_with fail
   refine bodyPost_ret (v:=.agg #[.slice A4 n4 m4,.int .i64 4]) (by simp [results,Tryz.results113,go_sem,c0,c1]) rfl ?_
   first | exact ⟨Qbt.no (by decide),Qah⟩ | exact ⟨Qda.no (Wg.mono (B:=w5.heap.size) (Wg.setCell (Wg.setCell hg4 hB5.lt _) hB5.lt _) hb5.size) (by decide),Qah⟩
 by_cases q2:L=0
 · have j1:((L:Int) == 0)=true:=by simp; exact q2
   go_enter Tryz.func113,Tryz.ntmps113
   go_wp2_with fail
   (refine Qad ?_; intro w5 hw5)
   have hB5:Blk w5 (w.heap.size+1) 48 #[.slice none 0 0,.int .i64 0]:=by rw [hw5]; exact Qba
   have hb5:Below w.heap.size w w5:=by rw [hw5]; exact Qah
   clear hw5;with_reducible refine (Qax _ _ _ _).mono ?_
   rintro e w2 ⟨⟨A4,n4,m4,rfl,hg4⟩,hb⟩;have hB2:=Blk.below hB5 hb hB5.lt;obtain ⟨c0,c1,f0,f1⟩:=hB2.two;have hb2:Below w.heap.size w w2:=Zb hb5 hb
   go_wp2_with fail
   refine bodyPost_ret (v:=.agg #[.slice A4 n4 m4,.int .i64 1]) (by simp [results,Tryz.results113,go_sem,c0,c1]) rfl ?_
   first | exact ⟨Qbt.no (by decide),Qah⟩ | exact ⟨Qda.no (Wg.mono (B:=w5.heap.size) (Wg.setCell (Wg.setCell hg4 hB5.lt _) hB5.lt _) hb5.size) (by decide),Qah⟩
 have j1:((L:Int) == 0)=false:=by simp; exact q2
 go_enter Tryz.func113,Tryz.ntmps113
 go_wp2_with fail
 (refine Qaj ?_; intro w1 hw1)
 have hb1:Below w.heap.size w w1:=by rw [hw1]; exact Qah
 have hQ:Blk w1 w.heap.size 29 #[.slice Q L cq]:=by rw [hw1]; exact Qba
 have hB:Blk w1 (w.heap.size+1) 48 #[.slice none 0 0,.int .i64 0]:=by rw [hw1]; exact Qba
 clear hw1
 go_loopw [7] (fun q W=>Below w.heap.size w W∧Blk W w.heap.size 29 #[.slice Q L cq]∧Blk W (w.heap.size+1) 48 #[.slice none 0 0,.int .i64 0]∧∃ i:Nat,i≤L∧q=.int .i64 ((i:Int)+1)∧∀ (j:Nat) (l:List Int),j<i→ls[j]?=some l→Qft n l∧∀ q,Qfs ls j=some q→Qds q l) (fun q _=>L+1-(intOf q).toNat)
 case atStart=>exact ⟨hb1,hQ,hB,0,Nat.zero_le _,rfl,fun _ _ h=>absurd h (Nat.not_lt_zero _)⟩
 case round =>
  clear hb1 hQ hB;obtain ⟨hbl,hQ,hB,i,hi,rfl,hall⟩:=hrel;have HA:=Zh hall;clear hall;have y0:=hQ.cell 0;simp only [List.getElem?_toArray,List.getElem?_cons_zero] at y0
  by_cases hlt:i<L
  · obtain ⟨l,hl⟩:∃ l,ls[i]?=some l:=⟨_,Zg (by rw [HT.out.1]; exact hlt)⟩
    have HCL:=Zh (Qlg Q n L cq i ls l wr (HT.out.below hbl) hl (by omega) (by omega) (fun j p e hp=>(HA.out j p (by omega) hp).1.len));have HLL:=Zh hl;have HI:=Zh (@Qrq n (Qfs ls i) l);have i1:(i:Int)+1≤(L:Int):=by omega
    clear hl;generalize Qeu n (Qfs ls i) l=code at *
    go_wp2_with fail
    with_reducible refine HCL.out.mono ?_
    rintro e w2 ⟨rfl,hb2⟩;have hQ2:=hQ.below hb2 hQ.lt;have hB2:=hB.below hb2 hB.lt;have hbw2:=Zb hbl hb2;clear hQ hB y0 HCL hb2
    by_cases hc:code=0
    · subst hc
      have HO:=Zh (HI.out rfl);clear HI
      go_wp2_with fail
      go_roundw
      case rel=>exact ⟨hbw2,hQ2,hB2,i+1,by omega,by go_num,fun j l' hj hl'=>by
       by_cases e:j=i
       · subst e
         rw [HLL.out] at hl'
         cases hl'
         exact HO.out
       · exact HA.out j l' (by omega) hl'⟩
      case measure=>simp [intOf]; omega
    · have e1:(code == 0)=false:=by simpa using hc
      have e2:(code != 0)=true:=by simpa using hc
      have HC:=Zh hc;clear hc
      go_wp2_with fail
      with_reducible refine (Qax _ _ _ _).mono ?_
      rintro e w3 ⟨⟨A4,n4,m4,rfl,hg4⟩,hb3⟩;have hB3:=hB2.below hb3 hB2.lt;obtain ⟨c0,c1,f0,f1⟩:=hB3.two;have hbw3:=Zb hbw2 hb3
      go_wp2_with fail
      refine bodyPost_ret (v:=.agg #[.slice A4 n4 m4,.int .i64 code]) (by simp [results,Tryz.results113,go_sem,c0,c1]) rfl ?_;exact ⟨Qbt.no HC.out,Qah⟩
  · obtain rfl:L=i:=by omega
    obtain ⟨c0,c1,f0,f1⟩:=hB.two;have zB:=hB.lt
    have HP:=Zh (show Qay n ls from ⟨by rw [HT.out.1]; omega,by rw [HT.out.1]; omega,fun l hl=>by
     obtain ⟨j,hj⟩:=List.getElem?_of_mem hl;exact (HA.out j l (by rw [←HT.out.1]; exact (Zs hj).1) hj).1,fun j p l hp hl=>(HA.out (j+1) l (by rw [←HT.out.1]; exact (Zs hl).1) hl).2 p (by rw [Qhd]; exact hp)⟩)
    clear HA
    go_wp2_with fail
    refine bodyPost_ret (v:=.agg #[.slice none 0 0,.int .i64 0]) (by simp [results,Tryz.results113,go_sem,c0,c1]) rfl ?_;exact ⟨⟨_,_,_,_,rfl,.inl ⟨rfl,HP.out⟩⟩,Qah⟩
structure FewP (ls:List (List Int)):Prop where
 l:ls.length≤10
 r:∀ l∈ls,l.length≤60
set_option maxHeartbeats 1000000 in
theorem fewP_any (Q:Option Addr)(L cq:Nat) (ls:List (List Int)) (w:World) (h:RdT w Q L ls) (hL:L≤9223372036854775807) :
 Calls Tryz.prog 112 #[.agg #[.slice Q L cq]] w fun e w'=>Qiv (FewP ls) e∧Below w.heap.size w w':=by
 have HT:=Zh h;have HLE:=Zh h.1;clear h
 go_enter Tryz.func112,Tryz.ntmps112
 go_wp2_with fail
 (refine Qaj ?_; intro w1 hw1)
 have hb1:Below w.heap.size w w1:=by rw [hw1]; exact Qah
 have hQ:Blk w1 w.heap.size 29 #[.slice Q L cq]:=by rw [hw1]; exact Qba
 have H1:=Zh (HT.out.below hb1);clear hw1;have y0:=hQ.cell 0;simp only [List.getElem?_toArray,List.getElem?_cons_zero] at y0
 go_loop [3] (fun q=>∃ i:Nat,i≤L∧q=.int .i64 i∧∀ j l,j<i→ls[j]?=some l→l.length≤60) (fun q=>L-(intOf q).toNat)
 case atStart=>exact ⟨0,Nat.zero_le _,rfl,fun _ _ h=>absurd h (Nat.not_lt_zero _)⟩
 case round =>
  obtain ⟨i,hi,rfl,hall⟩:=hrel;have HA:=Zh hall;clear hall
  by_cases hlt:i<L
  · obtain ⟨b,o,A,n,c,l,rfl,hl,hc,hr,q1,q2⟩:=H1.out.at_ hlt
    have i1:(0:Int)≤(i:Int):=by omega
    have i2:(i:Int)<(L:Int):=by omega
    have HLL:=Zh hl;have HR:=Zh hr.1;clear hl hr
    by_cases q3:(n:Int) > 60
    · go_wp2_with fail
      go_ret
      exact ⟨⟨false,rfl,fun h=>by cases h⟩,hb1⟩
    · go_wp2_with fail
      go_round
      case rel=>exact ⟨i+1,by omega,by go_num,fun j l' hj hl'=>by
       by_cases e:j=i
       · subst e
         rw [HLL.out] at hl'
         cases hl'
         rw [HR.out];omega
       · exact HA.out j l' (by omega) hl'⟩
      case measure=>simp [intOf]; omega
  · obtain rfl:L=i:=by omega
    go_wp2_with fail
    go_ret
    refine ⟨⟨_,rfl,fun h=>⟨by rw [HLE.out]; have:=of_decide_eq_true h; omega,fun l hl=>?_⟩⟩,hb1⟩;obtain ⟨j,hj⟩:=List.getElem?_of_mem hl;exact HA.out j l (by rw [←HLE.out]; exact (Zs hj).1) hj
set_option maxHeartbeats 1000000 in
theorem Qwf (Q:Option Addr)(n L cq:Nat) (ls:List (List Int)) (w:World) (h:RdT w Q L ls) (hL:L≤9223372036854775807) :
 Calls Tryz.prog 58 #[.int .i64 n,.agg #[.slice Q L cq]] w fun e w'=>Qiv (FewP ls∧n≤60∧Qay n ls) e∧Below w.heap.size w w':=by
 have HT:=Zh h;clear h
 go_enter Tryz.func58,Tryz.ntmps58
 go_wp2_with fail
 (refine Qad ?_; intro w1 hw1)
 have hb1:Below w.heap.size w w1:=by rw [hw1]; exact Qah
 have hQ:Blk w1 w.heap.size 29 #[.slice Q L cq]:=by rw [hw1]; exact Qba
 clear hw1;with_reducible refine (fewP_any Q L cq ls w1 (HT.out.below hb1) hL).mono ?_
 rintro e w2 ⟨⟨bb,rfl,hf⟩,hb2⟩;have hbw2:=Zb hb1 hb2;have y0:=(hQ.below hb2 hQ.lt).cell 0;simp only [List.getElem?_toArray,List.getElem?_cons_zero] at y0;clear hQ hb2
 cases bb
 · go_wp2_with fail
   go_ret
   exact ⟨⟨false,rfl,fun h=>by cases h⟩,hbw2⟩
 have HF:=Zh (hf rfl);clear hf
 by_cases q0:(n:Int)≤60
 rotate_left
 · go_wp2_with fail
   go_ret
   exact ⟨⟨false,rfl,fun h=>by cases h⟩,hbw2⟩
 go_wp2_with fail
 with_reducible refine (Qnq Q n L cq ls w2 (HT.out.below hbw2)).mono ?_
 rintro e w3 ⟨⟨A4,k4,c4,x,rfl,hx⟩,hb3⟩;have hbw3:=Zb hbw2 hb3;have hfe:=Qsd A4 k4 c4 x w3;clear y0
 rcases hx with ⟨rfl,hG⟩ | hx
 · have HG:=Zh hG
   clear hG
   go_wp2_with fail
   go_ret
   exact ⟨⟨true,rfl,fun _=>⟨HF.out,by omega,HG.out⟩⟩,hbw3⟩
 · go_wp2_with fail
   go_ret
   exact ⟨⟨_,rfl,fun h=>absurd (by simpa using h) hx⟩,hbw3⟩
structure MayOk (N:Qao) (ls:List (List Int)):Prop where
 small:Qvt N
 few:FewP ls
 part:Qay N.vs.length ls
set_option maxHeartbeats 1000000 in
theorem Qnt (A B C Q:Option Addr)(n m k c d e L cq:Nat)(N:Qao) (ls:List (List Int)) (w:World) (h:Qbv w A B C n m k N) (hk:k≤9223372036854775807) (hq:RdT w Q L ls) (hL:L≤9223372036854775807) :
 Calls Tryz.prog 16 #[.agg #[.slice A n c,.slice B m d,.slice C k e],.agg #[.slice Q L cq]] w fun e w'=>Qiv (MayOk N ls) e∧Below w.heap.size w w':=by
 have HH:=Zh h;have HT:=Zh hq;have HLV:=Zh h.1.1;clear h hq
 go_enter Tryz.func16,Tryz.ntmps16
 go_wp2_with fail
 (refine Qad ?_; intro w1 hw1)
 have hb1:Below w.heap.size w w1:=by rw [hw1]; exact Qah
 have hN:Blk w1 w.heap.size 26 #[.slice A n c,.slice B m d,.slice C k e]:=by rw [hw1]; exact Qba
 have hQ:Blk w1 (w.heap.size+1) 29 #[.slice Q L cq]:=by rw [hw1]; exact Qba
 clear hw1;with_reducible refine (Qxm A B C n m k c d e N w1 (HH.out.below hb1) hk).mono ?_
 rintro r w2 ⟨⟨bb,rfl,hf⟩,hb2⟩;have hbw2:=Zb hb1 hb2;have y0:=(hQ.below hb2 hQ.lt).cell 0;simp only [List.getElem?_toArray,List.getElem?_cons_zero] at y0;obtain ⟨n0,n1,n2⟩:=(hN.below hb2 hN.lt).three;clear hQ hb2 hN
 cases bb
 · go_wp2_with fail
   go_ret
   exact ⟨⟨false,rfl,fun h=>by cases h⟩,hbw2⟩
 have HF:=Zh (hf rfl);clear hf
 go_wp2_with fail
 with_reducible refine (Qwf Q n L cq ls w2 (HT.out.below hbw2) hL).mono ?_
 rintro r w3 ⟨⟨bb,rfl,hf⟩,hb3⟩;have HF2:=Zh hf;have hbw3:=Zb hbw2 hb3;clear hf
 go_wp2_with fail
 go_ret
 exact ⟨⟨bb,rfl,fun h=>⟨HF.out,(HF2.out h).1,by rw [HLV.out]; exact (HF2.out h).2.2⟩⟩,hbw3⟩
theorem Qnm {N:Qao} {ls:List (List Int)} (h:MayOk N ls):Qbx (Qae N.ar ls)≤1000000000:=by
 have hA:=h.small.a; have hv:=h.small.v;have h6:=h.part.l6
 have hx:∀ x∈(Qae N.ar ls).map Qdt,x≤194400:=fun z hz=>by
  obtain ⟨row,hr,rfl⟩:=List.mem_map.1 hz;obtain ⟨l,hl,rfl⟩:=List.mem_map.1 hr
  have hm:∀ y∈(Qaf N.ar l).map szG,y≤8100:=fun y hy=>by
   obtain ⟨x,hx,rfl⟩:=List.mem_map.1 hy;obtain ⟨c,hc⟩:=List.getElem?_of_mem hx;have g:=Qbl hc;unfold szG;have:=Nat.mul_le_mul (show x.1.length≤90 by omega) (show x.2.length≤90 by omega)
   omega
  have h1:=Qsp hm;have h2:=h.part.lvl l hl;have h3:=Qch (l:=l) (n:=(N.vs.length:Int)) (fun x hx=>h2.hi x hx) (by omega);rw [List.length_map,Qar] at h1;have h4:(Qas l).toNat*8100≤24*8100:=Nat.mul_le_mul_right _ (by omega);unfold Qdt;omega
 have h1:=Qsp hx;rw [List.length_map,show (Qae N.ar ls).length=ls.length by simp [Qae]] at h1
 have h4:ls.length*194400≤6*194400:=Nat.mul_le_mul_right _ (by omega);unfold Qbx;omega
end Go.Proofs.YteaoiabikjnkeaaGreatDoor
namespace Go.Proofs.YteaoiabikjnkeaaGreatDoor
open Go.ChangeShapes Go.WideShapes Go.ChangeAt Go.RowKit Go.Deep
theorem own_:ownKnob Tryz.prog.godebug=none:=by kernel_rfl
theorem Qih:laidOutB Tryz.prog=true:=by kernel_rfl
theorem Qxt {α:Type}{p:Nat→α→Prop}:∀ (n:Nat),(∀ i,i<n→∃ a,p i a)→∃ l:List α,l.length=n∧∀ i a,l[i]?=some a→p i a
 | 0,_=>⟨[],rfl,fun i a h=>by simp at h⟩
 | n+1,h=>by
  obtain ⟨l,hl,hp⟩:=Qxt n (fun i hi=>h i (by omega));obtain ⟨a,ha⟩:=h n (by omega);refine ⟨l ++[a],by simp [hl],fun i b hb=>?_⟩
  rcases Nat.lt_or_ge i n with h1 | h1
  · rw [List.getElem?_append_left (by omega)] at hb; exact hp i b hb
  · rw [List.getElem?_append_right (by omega),hl] at hb
    have:i=n:=by
     rcases Nat.lt_or_ge (i-n) 1 with h2 | h2
     · omega
     · rw [List.getElem?_eq_none (by simpa using h2)] at hb; cases hb
    subst this;simp at hb;subst hb;exact ha
section
variable {H:Type} {enc:TypeId×Value→H} {P:Program} {w:World} {base:Nat} {spare:Nat→Bool} {held:Bool}
theorem Qez {α:Type}{t e k:Nat} (ht:P.underlying t=some (.slice e)) (hk:P.cellsOf e=k) (hk0:0<k) (Rel:List Value→α→Prop)
 (hel:∀ (fuel:Nat) (cs:List Value) (x:DataW H×List MemPlace),DataW.trod enc P w base spare held fuel e cs=some x→∃ a,Rel cs a)
 {A:Option Addr} {n c fuel:Nat} {x:DataW H×List MemPlace} (h:DataW.trod enc P w base spare held fuel t [.slice A n c]=some x) :
 ∃ l:List α,l.length=n∧n≤c∧c≤9223372036854775807∧(n=0∨∃ el sp,x.1=.slice el sp∧el.length=n) ∧
  ∀ i a,l[i]?=some a→∃ b o vs,A=some ⟨b,o,none⟩∧Rel vs a∧vs.length=k∧∀ j v,vs[j]?=some v→w.cell? ⟨b,o+i*k+j,none⟩=some v:=by
 rcases open_slice ht h with ⟨h0,_⟩ | ⟨a,len,cap,m,n',D,Pl,hcs,hb,hl,hm,hmm,hx,hi⟩
 · simp only [List.cons.injEq,Value.slice.injEq,and_true] at h0
   obtain ⟨rfl,rfl,rfl⟩:=h0;exact ⟨[],rfl,Zn _,by omega,.inl rfl,fun i a h=>by simp at h⟩
 · simp only [List.cons.injEq,Value.slice.injEq,and_true] at hcs
   obtain ⟨rfl,rfl,rfl⟩:=hcs;have hlm:n≤m:=by rw [hmm]; split <;> omega
   obtain ⟨l,hll,hlp⟩:=Qxt (p:=fun i (y:α)=>∃ vs,Rel vs y∧vs.length=k∧∀ j v,vs[j]?=some v→w.cell? ((a.add (i*k)).add j)=some v) n (fun i hin=>by
    obtain ⟨cs',hc,ht'⟩:=hi i (by omega);rw [hk] at hc;obtain ⟨_,hlen,hat⟩:=World.cells?_some hc;obtain ⟨y,hy⟩:=hel _ _ _ ht';refine ⟨y,cs',hy,hlen,fun j v hv=>?_⟩;have hj:j<k:=by rw [←hlen]; exact (Zs hv).1
    rw [hat j hj,hv])
   refine ⟨l,hll,hl,(by unfold maxLen at hm; omega),.inr ⟨_,_,by rw [hx],by simp⟩,fun i y hy=>?_⟩;obtain ⟨vs,h1,h2,h3⟩:=hlp i y hy
   have hspot:a.spot=none:=by
    have h4:=h3 0 vs[0] (Zg (by omega));have h5:=World.cell?_spot h4;unfold Addr.add at h5
    by_cases h6:i*k=0
    · simpa [h6] using h5
    · have hl0:l.length=n:=hll
      have h7:0<n:=by
       have:=(Zs hy).1;omega
      obtain ⟨y0,hy0⟩:∃ y0,l[0]?=some y0:=⟨l[0],Zg (by omega)⟩;obtain ⟨vs0,g1,g2,g3⟩:=hlp 0 y0 hy0;have g4:=World.cell?_spot (g3 0 vs0[0] (Zg (by omega)))
      simpa [Addr.add] using g4
   obtain ⟨b,o,sp⟩:=a;simp only at hspot;subst hspot;refine ⟨b,o,vs,rfl,h1,h2,fun j v hv=>?_⟩;have:=h3 j v hv;unfold Addr.add at this
   by_cases h6:i*k=0
   · by_cases h7:j=0
     · simpa [h6,h7] using this
     · simpa [h6,h7] using this
   · by_cases h7:j=0
     · simpa [h6,h7] using this
     · simpa [h6,h7] using this
theorem rel_int {k:IntKind}{e:Nat} (he:P.underlying e=some (.int k)) (fuel:Nat) (cs:List Value) (x:DataW H×List MemPlace) (h:DataW.trod enc P w base spare held fuel e cs=some x) :
 ∃ n:Int,cs=[.int k n]∧(Lit.int k n).wf=true:=by
 obtain ⟨n,h1,_,h3⟩:=DataW.trod_int he h;exact ⟨n,h1,h3⟩
theorem rel_bool {e:Nat}(he:P.underlying e=some .bool)(fuel:Nat)(cs:List Value)(x:DataW H×List MemPlace)(h:DataW.trod enc P w base spare held fuel e cs=some x) :
 ∃ n:Bool,cs=[.bool n]:=by
 obtain ⟨n,h1,_⟩:=DataW.trod_bool he h;exact ⟨n,h1⟩
theorem open_bools {t e:Nat} (ht:P.underlying t=some (.slice e)) (he:P.underlying e=some .bool) (hc:P.cellsOf e=1)
 {A:Option Addr} {n c fuel:Nat} {x:DataW H×List MemPlace} (h:DataW.trod enc P w base spare held fuel t [.slice A n c]=some x) :
 ∃ l:List Bool,RdB w A n l∧n≤c∧c≤9223372036854775807∧(n=0∨∃ el sp,x.1=.slice el sp∧el.length=n):=by
 obtain ⟨l,hl,hnc,hcm,hsz,hr⟩:=Qez ht hc (by omega) (fun cs (p:Bool)=>cs=[.bool p]) (rel_bool he) h;refine ⟨l,⟨hl,fun i p hp=>?_⟩,hnc,hcm,hsz⟩;obtain ⟨b,o,vs,rfl,rfl,_,hv⟩:=hr i p hp;exact ⟨b,o,rfl,by have:=hv 0 _ rfl; simpa using this⟩
theorem Qmh {k:IntKind}{t e:Nat} (ht:P.underlying t=some (.slice e)) (he:P.underlying e=some (.int k)) (hc:P.cellsOf e=1)
 {A:Option Addr} {n c fuel:Nat} {x:DataW H×List MemPlace} (h:DataW.trod enc P w base spare held fuel t [.slice A n c]=some x) :
 ∃ l:List Int,RdK k w A n l∧n≤c∧c≤9223372036854775807∧(n=0∨∃ el sp,x.1=.slice el sp∧el.length=n)∧∀ a∈l,(Lit.int k a).wf=true:=by
 obtain ⟨l,hl,hnc,hcm,hsz,hr⟩:=Qez ht hc (by omega) (fun cs (p:Int)=>cs=[.int k p]∧(Lit.int k p).wf=true) (rel_int he) h;refine ⟨l,⟨hl,fun i p hp=>?_⟩,hnc,hcm,hsz,fun a ha=>?_⟩
 · obtain ⟨b,o,vs,rfl,⟨rfl,_⟩,_,hv⟩:=hr i p hp
   exact ⟨b,o,rfl,by have:=hv 0 _ rfl; simpa using this⟩
 · obtain ⟨i,hi,e1⟩:=List.getElem_of_mem ha
   obtain ⟨b,o,vs,_,⟨_,h2⟩,_,_⟩:=hr i a (by rw [Zg hi,e1]);exact h2
end
end Go.Proofs.YteaoiabikjnkeaaGreatDoor
