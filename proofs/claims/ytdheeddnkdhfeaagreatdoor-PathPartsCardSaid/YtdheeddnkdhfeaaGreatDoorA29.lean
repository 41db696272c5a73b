/- Parts of the proof: Yr, RfI, RfU, Ys. -/
import Derived.Test.YtdheeddnkdhfeaaGreatDoorA28
namespace Go.Proofs.YtdheeddnkdhfeaaGreatDoor
open Go.RowKit Go.Extern.Stop Go.Stop Go.Extern Go.Proofs.Tryz
attribute [local go_sem ↓] Go.wp_at_zero Go.wp_at_succ
theorem ch_row {a q:Nat}{c:Int}{l:List Nat} (h:Qdg (StW Qaz) a q c l):l=(List.range (q-a)).map (fun k=>a+1+k)∧a≤q:=by
 induction h with
 | start=>simp
 | @step p q c d l _ h2 ih =>
  obtain ⟨_,rfl,_⟩:=Qmz.1 h2;obtain ⟨ih,hle⟩:=ih;refine ⟨?_,by omega⟩;rw [ih,show p+1-a=(p-a)+1 by omega,List.range_succ,List.map_append]
  simp;omega
theorem ch_path {v:Int}{L:List Nat}{k:Int}(h:PthP Qaz 0 4 Qdj.length v L k):v=44∧L=[0,1,2,3,4]∧0≤k∧k≤5:=by
 obtain rfl:v=44:=h.dist.uniq (.inr ⟨by decide,ch_dist⟩);obtain ⟨l,rfl,hr,_⟩:=h.row (by decide);have hl:l=[1,2,3,4]:=(ch_row hr).1;subst hl;have hb:=h.kb;exact ⟨rfl,rfl,h.k0,hb⟩
theorem ch_path0 {v:Int}{L:List Nat}{k:Int}(h:PthP Qaz 3 1 Qdj.length v L k):v=1152921504606846976∧L=[]:=by
 have hd:Qgx Qaz 3 1 1152921504606846976:=.inr ⟨by decide,.inr ⟨rfl,fun c hc=>by have:=(ch_rch hc).1;omega⟩⟩;obtain rfl:=h.dist.uniq hd;exact ⟨rfl,(h.none_ rfl).1⟩
def Lp1 (e:Ending)(w':World):Prop:=∃ (A:Option Addr) (c:Nat),e=.returned (.tuple #[.slice A 3 c,.nilIface])∧RdI w' A 3 [1,2,3]
def Lp0 (e:Ending)(w':World):Prop:=∃ v,e=.returned (.tuple #[.slice none 0 0,v])∧Qcq w' v [((⟨#[108,101,97,112]⟩:ByteArray),2)] 5
theorem ch_leap1 {e:Ending}{w':World}(h:LpR Qaz Qdj 1 1 1 1 3 e w'):Lp1 e w':=by
 rcases h with ⟨k,c,v,h1,_⟩|⟨A,n,cc,L,a,b,j,c,l,v,_,h1,h2,h3,hl,hp,he,ho,hr,_⟩
 · exfalso
   rcases h1 with ⟨h2,_⟩|⟨_,h2,_⟩|⟨_,_,h2,_⟩|⟨_,_,_,h2,_⟩|⟨_,⟨a,b,j,l,y,z,h2,h3,h4,hl,hy,_,_,_,_,hE⟩,_⟩
   · rcases h2 with h2|h2
     · exact absurd h2 (by decide)
     · exact absurd h2 (by decide)
   · exact absurd rfl h2
   · exact absurd h2 (by decide)
   · exact absurd (by decide) h2
   · obtain rfl:a=1:=by omega
     obtain rfl:b=3:=by omega
     obtain rfl:j=0:=by omega
     cases hl
     cases hy
     exact absurd (Lst.uniq hE ch_ent) (by decide)
 · obtain rfl:a=1:=by omega
   obtain rfl:b=3:=by omega
   obtain rfl:j=0:=by omega
   cases hl
   obtain ⟨⟨p,c1,e1,l',g1,g2,_,rfl⟩,_⟩:=ho;obtain ⟨_,hp2⟩:=Qwh g2.1;obtain rfl:p=2:=by omega
   have hl':l'=[2]:=(ch_row (g1.mono (fun _ _ _ h=>h.all))).1;subst hl';obtain rfl:n=3:=by rw [←hr.1];rfl
   exact ⟨A,cc,he,hr⟩
theorem ch_leap0 {e:Ending}{w':World}(h:LpR Qaz Qdj 1 1 1 0 3 e w'):Lp0 e w':=by
 rcases h with ⟨k,c,v,h1,he,hc⟩|⟨A,n,cc,L,a,b,j,c,l,v,_,h1,h2,h3,hl,hp,_⟩
 · rcases h1 with ⟨h2,_⟩|⟨_,h2,_⟩|⟨_,_,_,rfl,rfl⟩|⟨_,_,h2,_⟩|⟨_,⟨a,b,j,l,y,z,h2,h3,h4,hl,hy,_,g1,_⟩,_⟩
   · rcases h2 with h2|h2
     · exact absurd h2 (by decide)
     · exact absurd h2 (by decide)
   · exact absurd rfl h2
   · exact ⟨v,he,hc⟩
   · exact absurd h2 (by decide)
   · obtain rfl:a=0:=by omega
     obtain rfl:j=0:=by omega
     cases hl
     cases hy
     exact absurd (by decide) g1
 · obtain rfl:a=0:=by omega
   obtain rfl:j=0:=by omega
   cases hl
   obtain ⟨y,hy,g1,g2⟩:=hp.sy
   cases hy
   exact absurd g2 g1
set_option maxRecDepth 20000 in
set_option maxHeartbeats 4000000 in
theorem Qls (w:World)(hg:w.cell? ⟨0,0,none⟩=some Qmv):Calls prog 17 #[] w fun e w'=>e=.returned (.bool true)∧Below w.heap.size w w':=by
 have HG:=Zh hg;have hg0:=Qaj hg;simp only at hg0;clear hg
 go_enter func17,ntmps17
 go_wp2_with fail
 with_reducible refine (chain_ok w).mono ?_
 unfold ChnP;rintro r w1 ⟨⟨A,B,C,Q,ca,cb,cc,cq,rfl,hn1,hq1⟩,hb1⟩;have HN1:=Zh hn1;have HQ1:=Zh hq1;have HB1:=Zh hb1;clear hn1 hq1 hb1
 go_wp2_with fail
 (refine Qae ?_;intro w2 hw2)
 have hb2:Below w1.heap.size w1 w2:=by rw [hw2];exact Qah
 clear hw2;have HB2:=Zh (Zb HB1.out hb2);have HN2:=Zh (HN1.out.below hb2);have HQ2:=Zh (HQ1.out.below hb2);clear hb2 HN1 HQ1 HB1;with_reducible refine (Qmi A B C Q 6 5 3 ca cb cc 1 cq Qaz Qdj w2 HN2.out Qhv HQ2.out Qhe (by rw [Qpb];omega)).mono ?_
 unfold Qpk;rintro r w3 ⟨⟨g,o,CB,NC,cl,F,rfl,hNC,hG,hF,hO,hC,hA⟩,hb3⟩;rw [Qpb] at hNC;subst hNC;obtain rfl:=hA.uniq Qsl;have HB3:=Zh (Zb HB2.out hb3);have HG3:=Zh hG.rd;have HO3:=Zh (hO.le (Qat _ _));have HC3:=Zh (show RdI w3 (some ⟨CB,0,none⟩) 1 [12] from ⟨hC.1,fun i x hx=>by obtain ⟨b,o,e,h1⟩:=hC.2 i x hx;exact ⟨b,o,e,Qat _ _ _ _ h1⟩⟩)
 have hS1:Qbx (Qac Qaz.ar Qdj)≤1000000000:=by rw [Qpb];omega
 have HP1:=Zh (fun V (hV:Below w3.heap.size w3 V)=>show Calls prog 28 #[.pointer (some ⟨g,0,none⟩),.pointer (some ⟨o,0,none⟩),.slice (some ⟨CB,0,none⟩) 1 1,.int .i64 0,.int .i64 4] V _ from Qfq V g o Qaz Qdj (some ⟨CB,0,none⟩) 1 1 [12] 0 4 _ _ (HG3.out.below hV) (HO3.out.below hV) (HC3.out.below hV) Qhv Qhe Qsl ⟨by omega,by omega⟩ hS1 rfl rfl)
 have HP2:=Zh (fun V (hV:Below w3.heap.size w3 V)=>show Calls prog 28 #[.pointer (some ⟨g,0,none⟩),.pointer (some ⟨o,0,none⟩),.slice (some ⟨CB,0,none⟩) 1 1,.int .i64 3,.int .i64 1] V _ from Qfq V g o Qaz Qdj (some ⟨CB,0,none⟩) 1 1 [12] 3 1 _ _ (HG3.out.below hV) (HO3.out.below hV) (HC3.out.below hV) Qhv Qhe Qsl ⟨by omega,by omega⟩ hS1 rfl rfl)
 have HL:=Zh (fun V (hV:Below w3.heap.size w3 V) f=>Qjr V g o Qaz Qdj (some ⟨CB,0,none⟩) 1 1 1 [12] 1 f 3 (HG3.out.below hV) (HO3.out.below hV) (HC3.out.below hV) Qhv Qhe Qpb.symm (fun _=>Qsl) ⟨by omega,by omega⟩ (by omega));clear hG hF hO hC hA hb3 HN2 HQ2 HB2 hS1
 go_wp2_with fail
 with_reducible refine (HP1.out w3 (Zr _ _)).mono ?_
 unfold PtR;rintro r w4 ⟨⟨v,A4,n4,c4,L4,k4,rfl,hp4,hr4,_⟩,hb4⟩;obtain ⟨rfl,rfl,hk0,hk5⟩:=ch_path hp4;obtain rfl:n4=5:=by rw [←hr4.1];rfl
 have HR4:=Zh hr4;clear hp4 hr4 HP1
 go_wp2_with fail
 (refine Qae ?_;intro w5 hw5)
 have hb5:Below w4.heap.size w4 w5:=by rw [hw5];exact Qah
 have HW5:=Zh (show Blk w5 w4.heap.size 80 #[.slice A4 5 c4,.int .i64 44,.int .i64 k4] by rw [hw5];exact Blk.new _ _ _)
 have HB5:=Zh (Zb hb4 hb5);have HR5:=Zh (HR4.out.below hb5);clear hw5 hb5 hb4 HR4;with_reducible refine (HL.out w5 HB5.out 1).mono ?_
 rintro r w6 ⟨hl6,hb6⟩;obtain ⟨A6,c6,rfl,hr6⟩:=ch_leap1 hl6;have HB6:=Zh (Zb HB5.out hb6);have HR6:=Zh hr6;have HW6:=Zh (HW5.out.below hb6 HW5.out.lt);have HR56:=Zh (HR5.out.below hb6);clear hl6 hb6 hr6 HW5 HR5
 go_wp2_with fail
 with_reducible refine (HL.out w6 HB6.out 0).mono ?_
 rintro r w7 ⟨hl7,hb7⟩;obtain ⟨v7,rfl,hc7⟩:=ch_leap0 hl7;obtain ⟨tv,xv,rfl⟩:=Qbg hc7;have HB7:=Zh (Zb HB6.out hb7);have HC7:=Zh hc7;have HR7:=Zh (HR6.out.below hb7);have HW7:=Zh (HW6.out.below hb7 HW6.out.lt);have HR57:=Zh (HR56.out.below hb7);clear hl7 hb7 hc7 HW6 HR6 HR56
 go_wp2_with fail
 with_reducible refine (HP2.out w7 HB7.out).mono ?_
 unfold PtR;rintro r w8 ⟨⟨v,A8,n8,c8,L8,k8,rfl,hp8,hr8,_⟩,hb8⟩;obtain ⟨rfl,rfl⟩:=ch_path0 hp8;obtain rfl:n8=0:=by rw [←hr8.1];rfl
 have HB8:=Zh (Zb HB7.out hb8);have HW8:=Zh (HW7.out.below hb8 HW7.out.lt);have HR58:=Zh (HR57.out.below hb8);have HR8:=Zh (HR7.out.below hb8);have HC8:=Zh (HC7.out.below hb8);clear hp8 hr8 HP2 hb8 HW7 HR57 HR7 HC7;have z0:∀ o,(w8.alloc o).cell? ⟨w4.heap.size,0,none⟩=some (.slice A4 5 c4):=fun o=>by rw [(HW8.out.alloc o).cell];rfl
 go_wp2_with fail
 (refine Qae ?_;intro w9 hw9)
 have hb9:Below w8.heap.size w8 w9:=by rw [hw9];exact Qah
 have HX9:=Zh (show Blk w9 w8.heap.size 80 #[.slice A8 0 c8,.int .i64 1152921504606846976,.int .i64 k8] by rw [hw9];exact Qbh)
 have hS9:RdI w9 (some ⟨w8.heap.size+1,0,none⟩) 5 [0,1,2,3,4]:=Blk.rdI (t:=3) (l:=[0,1,2,3,4]) (show Blk w9 (w8.heap.size+1) 3 (Qcj [0,1,2,3,4]) by rw [hw9];exact Qbh) rfl
 have HW9:=Zh (HW8.out.below hb9 HW8.out.lt);have HB9:=Zh (Zb HB8.out hb9);have HR9:=Zh (HR8.out.below hb9);have HC9:=Zh (HC8.out.below hb9);have hR59:RdI w9 A4 5 [0,1,2,3,4]:=HR58.out.below hb9;clear hw9 hb9 z0 HW8 HR58 HR8 HC8;with_reducible refine (Qio A4 _ 5 5 c4 5 [0,1,2,3,4] [0,1,2,3,4] w9 hR59 hS9 (by omega) (by omega)).mono ?_
 rintro r wa ⟨rfl,ka,rfl⟩;have hba:Below w9.heap.size w9 (w9.drewN ka):=Qax (Zr _ _) ka;obtain ⟨wa,hwa⟩:∃ W,W=w9.drewN ka:=⟨_,rfl⟩;rw [←hwa] at hba ⊢;have HWa:=Zh (HW9.out.below hba HW9.out.lt);have HXa:=Zh (HX9.out.below hba HX9.out.lt);have HBa:=Zh (Zb HB9.out hba);have HRa:=Zh (HR9.out.below hba);have HCa:=Zh (HC9.out.below hba);obtain ⟨_,y1,y2⟩:=HWa.out.three;have d1:decide (([0,1,2,3,4]:List Int)=[0,1,2,3,4])=true:=by decide
 clear hwa hba hS9 hR59 HW9 HX9 HR9 HC9
 go_wp2_with fail
 (refine Qae ?_;intro wb hwb)
 have hbb:Below wa.heap.size wa wb:=by rw [hwb];exact Qah
 have hSb:RdI wb (some ⟨wa.heap.size,0,none⟩) 3 [1,2,3]:=Blk.rdI (t:=3) (l:=[1,2,3]) (show Blk wb wa.heap.size 3 (Qcj [1,2,3]) by rw [hwb];exact Qbh) rfl
 have HXb:=Zh (HXa.out.below hbb HXa.out.lt);have HBb:=Zh (Zb HBa.out hbb);have hRb:RdI wb A6 3 [1,2,3]:=HRa.out.below hbb;have HCb:=Zh (HCa.out.below hbb);clear hwb hbb y1 y2 d1 HWa HXa HRa HCa;with_reducible refine (Qio A6 _ 3 3 c6 3 [1,2,3] [1,2,3] wb hRb hSb (by omega) (by omega)).mono ?_
 rintro r wc ⟨rfl,kc,rfl⟩;have hbc:Below wb.heap.size wb (wb.drewN kc):=Qax (Zr _ _) kc;obtain ⟨wc,hwc⟩:∃ W,W=wb.drewN kc:=⟨_,rfl⟩;rw [←hwc] at hbc ⊢;have HXc:=Zh (HXb.out.below hbc HXb.out.lt);have HBc:=Zh (Zb HBb.out hbc);have HCc:=Zh (HCb.out.below hbc);have d2:decide (([1,2,3]:List Int)=[1,2,3])=true:=by decide
 clear hwc hbc hSb hRb HXb HCb
 go_wp2_with fail
 with_reducible refine (Qod (⟨#[108,101,97,112]⟩:ByteArray) 2 5 wc).mono ?_
 rintro r wd ⟨_,rfl,⟨A9,n9,m9,rfl,h9,h8⟩,hbd⟩;have HXd:=Zh (HXc.out.below hbd HXc.out.lt);have HBd:=Zh (Zb HBc.out hbd);have HCd:=Zh (HCc.out.below hbd);have HR9:=Zh h9;clear h9 hbd HXc HCc d2
 go_wp2_with fail
 with_reducible refine (Qpg (.iface tv xv) A9 n9 m9 [((⟨#[108,101,97,112]⟩:ByteArray),2)] 5 wd HCd.out HR9.out (by omega) (Zc (Zb HB3.out HBd.out) (Zn _) HG.out) (by omega)).mono ?_
 rintro r we ⟨rfl,hbe⟩;have HXe:=Zh (HXd.out.below hbe HXd.out.lt);have HBe:=Zh (Zb HB3.out (Zb HBd.out hbe));obtain ⟨x0,x1,_⟩:=HXe.out.three;clear hbe HXd HCd HR9
 go_wp2_with fail
 go_ret
 exact ⟨rfl,HBe.out⟩
end Go.Proofs.YtdheeddnkdhfeaaGreatDoor
namespace Go.Proofs.YtdheeddnkdhfeaaGreatDoor
open Go.RowKit Go.Proofs.Tryz
attribute [local go_sem ↓] Go.wp_at_zero Go.wp_at_succ
set_option maxHeartbeats 1000000 in
theorem Qul (A B C:Option Addr)(n m k c d e:Nat)(N:Qam)(v:Int)(w:World)(h:Qce w A B C n m k N)(hm:m≤16384) :
 Calls prog 127 #[.agg #[.slice A n c,.slice B m d,.slice C k e],.int .i64 v] w fun r w'=>∃ A' n' c',r=.returned (.slice A' n' c')∧RdI w' A' n' (idx (·.2.1) N.ar v)∧Below w.heap.size w w':=by
 have HH:=Zh h;have HM:=Zh h.2.1.1;clear h
 go_enter func127,ntmps127
 go_wp2_with fail
 (refine Qai ?_;intro w1 hw1)
 have hb1:Below w.heap.size w w1:=by rw [hw1];exact Qah
 have hX:Blk w1 w.heap.size 26 #[.slice A n c,.slice B m d,.slice C k e]:=by rw [hw1];exact Blk.new _ _ _
 clear hw1
 go_loopw [5,6] (fun z q V=>∃ (i:Nat) (A':Option Addr) (c':Nat),i≤m∧q=.int .i64 i∧z=.slice A' (idx (·.2.1) (N.ar.take i) v).length c'∧Own V w1.heap.size 3 1 A' (idx (·.2.1) (N.ar.take i) v).length c' (Qag (idx (·.2.1) (N.ar.take i) v))∧Below w1.heap.size w1 V) (fun _ q _=>m-(intOf q).toNat)
 case atStart=>exact ⟨0,none,0,Nat.zero_le _,rfl,rfl,Own.nil _ _ _ _,Zr _ _⟩
 case round =>
  obtain ⟨i,A',c',hi,rfl,rfl,hown,hbl⟩:=hrel;have hXr:=hX.below hbl hX.lt;have x1:=hXr.cell 1;have xl:=hXr.lt;simp only [Yo,Yn,List.getElem?_cons_succ] at x1;have hbd:=Qgs (·.2.1) N.ar i v;have HOW:=Zh hown;obtain ⟨no,hno⟩:∃ no,no=(idx (·.2.1) (N.ar.take i) v).length:=⟨_,rfl⟩;rw [←hno] at hbd ⊢;have HNO:=Zh hno;clear hown hno
  by_cases hlt:i<m
  rotate_left
  · obtain rfl:i=m:=by omega
    exact Kbf
  · have hbw:=Zb hb1 hbl
    obtain ⟨y,hy⟩:∃ y,N.ar[i]?=some y:=⟨_,Zg (by rw [HM.out];exact hlt)⟩;obtain ⟨b,o,rfl,c0,c1,c2⟩:=(HH.out.below hbw).2.1.2 i y hy;have HY:=Zh hy;have i1:(i:Int)<(m:Int):=by omega
    have i2:(0:Int)≤(i:Int):=by omega
    clear hy
    by_cases hv:y.2.1=v
    · have e1:(y.2.1 == v)=true:=by simpa using hv
      have hown2:=HOW.out;rw [←HNO.out] at hown2;obtain ⟨W2,hW2⟩:∃ W2,W2=wr.alloc (.cells #[.int .i64 i] 3):=⟨_,rfl⟩;have hown3:Own W2 w1.heap.size 3 1 A' no c' (Qag (idx (·.2.1) (N.ar.take i) v)):=by rw [hW2];exact hown2.alloc _
      have hrd:Rds W2 1 (some ⟨wr.heap.size,0,none⟩) 1 (Qag [(i:Int)]):=by rw [hW2];exact (Blk.new wr 3 #[.int .i64 i]).rds rfl
      have hba:Below w1.heap.size w1 W2:=by rw [hW2];exact Below.alloc hbl hbl.size _
      have hsz:w1.heap.size≤W2.heap.size:=hba.size;have HW2:=Zh hW2;have HE:=Zh hv;clear hW2 hown2 hv
      go_wp2_with (at_builtin;rw [←HW2.out];with_reducible refine Qal rfl (.tmp 22) (.tmp 24) 61 rfl 3 _ 1 8 Qbm underlying61 rfl (by omega) rfl rfl hown3 hrd (Qao _) (by omega) (by omega) hsz ?_)
      intro A3 c3 w8 ho8 hg8 _;have hb8:Below w1.heap.size w1 w8:=Zo hba hg8 hown3 hsz;have HO8:=Zh (show Own w8 w1.heap.size 3 1 A3 (no+1) c3 (Qag (idx (·.2.1) (N.ar.take (i+1)) v)) by rw [Qej HY.out,e1,if_pos rfl,Qbj];exact ho8)
      have HN1:=Zh (show (idx (·.2.1) (N.ar.take (i+1)) v).length=no+1 by rw [Qej HY.out,e1,if_pos rfl,Yp,←HNO.out];rfl)
      exact Kat
    · have e1:(y.2.1 == v)=false:=by simpa using hv
      have HN1:=Zh (show idx (·.2.1) (N.ar.take (i+1)) v=idx (·.2.1) (N.ar.take i) v by rw [Qej HY.out,e1];simp)
      exact Kbm
set_option maxHeartbeats 1000000 in
theorem Qrf (A B C:Option Addr)(n m k c d e:Nat)(N:Qam)(v:Int)(w:World)(h:Qce w A B C n m k N)(hm:m≤16384) :
 Calls prog 128 #[.agg #[.slice A n c,.slice B m d,.slice C k e],.int .i64 v] w fun r w'=>∃ A' n' c',r=.returned (.slice A' n' c')∧RdI w' A' n' (idx (·.1) N.ar v)∧Below w.heap.size w w':=by
 have HH:=Zh h;have HM:=Zh h.2.1.1;clear h
 go_enter func128,ntmps128
 go_wp2_with fail
 (refine Qai ?_;intro w1 hw1)
 have hb1:Below w.heap.size w w1:=by rw [hw1];exact Qah
 have hX:Blk w1 w.heap.size 26 #[.slice A n c,.slice B m d,.slice C k e]:=by rw [hw1];exact Blk.new _ _ _
 clear hw1
 go_loopw [5,6] (fun z q V=>∃ (i:Nat) (A':Option Addr) (c':Nat),i≤m∧q=.int .i64 i∧z=.slice A' (idx (·.1) (N.ar.take i) v).length c'∧Own V w1.heap.size 3 1 A' (idx (·.1) (N.ar.take i) v).length c' (Qag (idx (·.1) (N.ar.take i) v))∧Below w1.heap.size w1 V) (fun _ q _=>m-(intOf q).toNat)
 case atStart=>exact ⟨0,none,0,Nat.zero_le _,rfl,rfl,Own.nil _ _ _ _,Zr _ _⟩
 case round =>
  obtain ⟨i,A',c',hi,rfl,rfl,hown,hbl⟩:=hrel;have hXr:=hX.below hbl hX.lt;have x1:=hXr.cell 1;have xl:=hXr.lt;simp only [Yo,Yn,List.getElem?_cons_succ] at x1;have hbd:=Qgs (·.1) N.ar i v;have HOW:=Zh hown;obtain ⟨no,hno⟩:∃ no,no=(idx (·.1) (N.ar.take i) v).length:=⟨_,rfl⟩;rw [←hno] at hbd ⊢;have HNO:=Zh hno;clear hown hno
  by_cases hlt:i<m
  rotate_left
  · obtain rfl:i=m:=by omega
    exact Kbf
  · have hbw:=Zb hb1 hbl
    obtain ⟨y,hy⟩:∃ y,N.ar[i]?=some y:=⟨_,Zg (by rw [HM.out];exact hlt)⟩;obtain ⟨b,o,rfl,c0,c1,c2⟩:=(HH.out.below hbw).2.1.2 i y hy;have HY:=Zh hy;have i1:(i:Int)<(m:Int):=by omega
    have i2:(0:Int)≤(i:Int):=by omega
    clear hy
    by_cases hv:y.1=v
    · have e1:(y.1 == v)=true:=by simpa using hv
      have hown2:=HOW.out;rw [←HNO.out] at hown2;obtain ⟨W2,hW2⟩:∃ W2,W2=wr.alloc (.cells #[.int .i64 i] 3):=⟨_,rfl⟩;have hown3:Own W2 w1.heap.size 3 1 A' no c' (Qag (idx (·.1) (N.ar.take i) v)):=by rw [hW2];exact hown2.alloc _
      have hrd:Rds W2 1 (some ⟨wr.heap.size,0,none⟩) 1 (Qag [(i:Int)]):=by rw [hW2];exact (Blk.new wr 3 #[.int .i64 i]).rds rfl
      have hba:Below w1.heap.size w1 W2:=by rw [hW2];exact Below.alloc hbl hbl.size _
      have hsz:w1.heap.size≤W2.heap.size:=hba.size;have HW2:=Zh hW2;have HE:=Zh hv;clear hW2 hown2 hv
      go_wp2_with (at_builtin;rw [←HW2.out];with_reducible refine Qal rfl (.tmp 22) (.tmp 24) 61 rfl 3 _ 1 8 Qbm underlying61 rfl (by omega) rfl rfl hown3 hrd (Qao _) (by omega) (by omega) hsz ?_)
      intro A3 c3 w8 ho8 hg8 _;have hb8:Below w1.heap.size w1 w8:=Zo hba hg8 hown3 hsz;have HO8:=Zh (show Own w8 w1.heap.size 3 1 A3 (no+1) c3 (Qag (idx (·.1) (N.ar.take (i+1)) v)) by rw [Qej HY.out,e1,if_pos rfl,Qbj];exact ho8)
      have HN1:=Zh (show (idx (·.1) (N.ar.take (i+1)) v).length=no+1 by rw [Qej HY.out,e1,if_pos rfl,Yp,←HNO.out];rfl)
      exact Kat
    · have e1:(y.1 == v)=false:=by simpa using hv
      have HN1:=Zh (show idx (·.1) (N.ar.take (i+1)) v=idx (·.1) (N.ar.take i) v by rw [Qej HY.out,e1];simp)
      exact Kbm
set_option maxHeartbeats 2000000 in
theorem Qik (A B C:Option Addr)(n m k c d e:Nat)(N:Qam)(a b:Nat)(x y:Tri)(w:World)(h:Qce w A B C n m k N)(hok:Qap N) (hx:N.ar[a]?=some x) (hy:N.ar[b]?=some y) :
 Calls prog 73 #[.agg #[.slice A n c,.slice B m d,.slice C k e],.int .i64 a,.int .i64 b] w fun r w'=>r=.returned (.int .i64 (Qaq N a b))∧Below w.heap.size w w':=by
 have HH:=Zh h;have hm:m≤16384:=by rw [←h.2.1.1];exact hok.la
 have hlm:N.ar.length=m:=h.2.1.1;have hln:N.vs.length=n:=h.1.1;have hn4:=hok.lv;have hla:=(Zs hx).1;have hlb:=(Zs hy).1;have hax:=hok.arcs x (Zm hx);obtain ⟨bb,o,x1,x2,x3,rfl,hx',ax,ay,az⟩:=h.2.1.at_ (i:=a) (by omega);rw [hx] at hx'
 cases hx'
 obtain ⟨bb',o',y1,y2,y3,e',hy',bx,by_,bz⟩:=h.2.1.at_ (i:=b) (by omega)
 cases e'
 rw [hy] at hy'
 cases hy'
 have i1:(0:Int)≤(a:Int):=by omega
 have i2:(a:Int)<(m:Int):=by omega
 have i3:(0:Int)≤(b:Int):=by omega
 have i4:(b:Int)<(m:Int):=by omega
 obtain ⟨v,rfl⟩:∃ v:Nat,x2=(v:Int):=⟨x2.toNat,by have:=hax.g0;simp only at this;omega⟩;have hvn:v<n:=by have:=hax.g1;simp only at this;omega
 obtain ⟨b2,o2,v1,v2,v3,hA2,hv,vx,vy,vz⟩:=h.1.at_ (i:=v) hvn;subst hA2;have hvo:=hok.verts _ (Zm hv);obtain ⟨t,rfl⟩:∃ t:Nat,v3=(t:Int):=⟨v3.toNat,by have:=hvo.t0;simp only at this;omega⟩;have htl:N.ts.length=k:=h.2.2.1;have htk:t<k:=by have:=hvo.t1;simp only at this;omega
 obtain ⟨b3,o3,tb,hA3,htb,t0,t1,AT,nT,cT,t2,hrd,hnT,hcT⟩:=h.2.2.at_ htk;subst hA3;have hto:=hok.tabs tb (Zm htb);have hk:=hok.lt;have hmt:=hok.meet v _ tb hv (by simpa using htb);obtain ⟨i,hi⟩:∃ i:Nat,i=(idx (·.2.1) (N.ar.take a) (v:Int)).length:=⟨_,rfl⟩;have hip:(i:Int)<tb.ins:=by rw [←hmt.1,hi];exact_mod_cast Qiy (f:=(·.2.1)) hx rfl
 obtain ⟨q,hq⟩:∃ q:Nat,q=(idx (·.1) (N.ar.take b) y1).length:=⟨_,rfl⟩;have hqp:y1=(v:Int)→(q:Int)<tb.outs:=fun e=>by rw [←hmt.2,hq,e];exact_mod_cast Qiy (f:=(·.1)) hy e
 have hpi:plI (idx (·.2.1) N.ar (v:Int)) (a:Int)=(i:Int):=by rw [hi];exact Qyf (f:=(·.2.1)) hx
 have hpq:y1=(v:Int)→plI (idx (·.1) N.ar (v:Int)) (b:Int)=(q:Int):=fun e=>by rw [hq,←e];exact Qyf (f:=(·.1)) hy
 have HTN:=Zh (show ∀ z,y1=(v:Int)→tb.costs[i*tb.outs.toNat+q]?=some z→Qaq N a b=z from fun z e hz=>by
  unfold Qaq;rw [hx,hy];simp only [if_pos e.symm,Yl,hv,htb,Qgz,←hi,←hq];rw [Ya,hz]
  rfl)
 have i5:(0:Int)≤(v:Int):=by omega
 have i6:(v:Int)<(n:Int):=by omega
 have i7:(0:Int)≤(t:Int):=by omega
 have i8:(t:Int)<(k:Int):=by omega
 have hil:(idx (·.2.1) N.ar (v:Int)).length≤16384:=by have:=Qgs (·.2.1) N.ar N.ar.length (v:Int);rw [List.take_length] at this;omega
 have hol:(idx (·.1) N.ar (v:Int)).length≤16384:=by have:=Qgs (·.1) N.ar N.ar.length (v:Int);rw [List.take_length] at this;omega
 have HTA:=Zh (fun V (hV:Below w.heap.size w V) (e:y1=(v:Int))=>Qoj AT nT cT tb i q V (hrd.below hV) hto hip (hqp e));have HIN:=Zh (fun V (hV:Below w.heap.size w V)=>Qul _ _ _ n m k c d e N (v:Int) V (HH.out.below hV) hm);have HOU:=Zh (fun V (hV:Below w.heap.size w V)=>Qrf _ _ _ n m k c d e N (v:Int) V (HH.out.below hV) hm);have HPI:=Zh hpi;have HPQ:=Zh hpq;have HIL:=Zh hil;have HOL:=Zh hol
 have HMM:=Zh (show (v:Int)≠y1→Qaq N a b=1152921504606846976 from fun hne=>by
  unfold Qaq;rw [hx,hy];simp only [if_neg hne])
 have HY:=Zh (show ∀ V,Below w.heap.size w V→V.cell? ⟨bb,o+a*3+1,none⟩=some (.int .i64 (v:Int))∧V.cell? ⟨bb,o+b*3,none⟩=some (.int .i64 y1) ∧
  V.cell? ⟨b2,o2+v*3+2,none⟩=some (.int .i64 t) ∧
  V.cell? ⟨b3,o3+t*3,none⟩=some (.int .i64 tb.ins)∧V.cell? ⟨b3,o3+t*3+1,none⟩=some (.int .i64 tb.outs)∧V.cell? ⟨b3,o3+t*3+2,none⟩=some (.slice AT nT cT) from
  fun V hV=>⟨Zc hV (Zn _) ay,Zc hV (Zn _) bx,Zc hV (Zn _) vz,Zc hV (Zn _) t0,Zc hV (Zn _) t1,Zc hV (Zn _) t2⟩)
 clear vx vy vz t0 t1 t2 hrd hip hqp hmt hv htb hi hq hpi hpq hil hol hto hvo hax hok hnT hcT;clear h ax ay az bx by_ bz hx hy
 go_enter func73,ntmps73
 go_wp2_with fail
 (refine Qai ?_;intro w1 hw1)
 have hb1:Below w.heap.size w w1:=by rw [hw1];exact Qah
 have hX:Blk w1 w.heap.size 26 #[.slice (some ⟨b2,o2,none⟩) n c,.slice (some ⟨bb,o,none⟩) m d,.slice (some ⟨b3,o3,none⟩) k e]:=by rw [hw1];exact Blk.new _ _ _
 clear hw1
 have HSX:=Zh (show ∀ V,Below w1.heap.size w1 V→V.cell? ⟨w.heap.size,0,none⟩=some (.slice (some ⟨b2,o2,none⟩) n c)∧V.cell? ⟨w.heap.size,1,none⟩=some (.slice (some ⟨bb,o,none⟩) m d)∧V.cell? ⟨w.heap.size,2,none⟩=some (.slice (some ⟨b3,o3,none⟩) k e)∧_ from
  fun V hV=>⟨by rw [(hX.below hV hX.lt).cell];rfl,by rw [(hX.below hV hX.lt).cell];rfl,by rw [(hX.below hV hX.lt).cell];rfl,HY.out V (Zb hb1 hV)⟩)
 clear HY hX;refine wp_region_held_drew (S:=fun V=>Below w1.heap.size w1 V) (by kernel_rfl) (Zr _ _).drew (fun _=>?_);refine tz 0 8 ?_;refine tz 1 9 ?_;refine Zk 2 (fun K hK=>?_);go_simp;with_reducible refine (Qcw _ _ _ n m k c d e (a:Int) _ i1 i2).mono ?_
 rintro r w2 ⟨rfl,hb2⟩;have hb2':Below w1.heap.size w1 w2:=(Zr _ _).drew.trans hb2;clear hb2;go_simp;refine hK.out _ _ hb2' (fun _=>?_);clear hK K;refine tz 3 11 ?_;refine tz 4 12 ?_;refine tz 5 13 ?_;refine tz 6 14 ?_;refine Zk 7 (fun K hK=>?_);go_simp;with_reducible refine (Qcw _ _ _ n m k c d e (b:Int) _ i3 i4).mono ?_
 rintro r w3 ⟨rfl,hb3⟩;have hb3':=Zb hb2' hb3;clear hb2' hb3;go_simp;refine hK.out _ _ hb3' (fun _=>?_);clear hK K;refine tz 8 16 ?_;refine tz 9 17 ?_;refine tz 10 18 ?_;refine tz 11 19 ?_;refine tz 12 20 ?_;refine tz 13 21 ?_;refine tz 14 22 ?_;refine tz 15 23 ?_;refine tz 16 24 ?_;refine tz 17 25 ?_;refine tz 18 26 ?_;refine tz 19 27 ?_;refine tz 20 28 ?_;refine tz 21 29 ?_;refine tz 22 30 ?_;refine tz 23 31 ?_;refine tz 24 32 ?_;refine Zd ?_
 by_cases hxy:(v:Int)=y1
 rotate_left
 · have e1:((v:Int) != y1)=true:=by simp [hxy]
   have HE:=Zh (HMM.out hxy);clear hxy
   go_wp2_with fail
   go_ret
   rw [HE.out];exact ⟨rfl,Zb hb1 hb3'⟩
 have e1:((v:Int) != y1)=false:=by simp [hxy]
 subst hxy;have HSXO:=HSX;have hc:=HSX.out w3 hb3'
 go_split_ands
 clear HSX;have HSX:=HSXO;clear HSXO
 go_wp2_with fail
 refine wp_region_held_drew (S:=fun V=>Below w1.heap.size w1 V) (by kernel_rfl) hb3'.drew (fun _=>?_);refine tz 0 39 ?_;refine tz 1 40 ?_;refine tz 2 41 ?_;refine tz 3 42 ?_;refine tz 4 43 ?_;refine tz 5 44 ?_;refine tz 6 45 ?_;refine tz 7 46 ?_;refine tz 8 47 ?_;refine tz 9 48 ?_;refine tz 10 49 ?_;refine tz 11 50 ?_;refine tz 13 52 ?_;refine tz 15 54 ?_;refine tz 16 55 ?_;refine tz 18 57 ?_;refine Zk 12 (fun K hK=>?_);go_simp;with_reducible refine (HIN.out _ (Zb hb1 hb3'.drew)).mono ?_
 rintro r w4 ⟨A4,n4,c4,rfl,h4,hb4⟩;have hb4':Below w1.heap.size w1 w4:=Zb hb3'.drew hb4;have H4:=Zh h4;have hn4l:n4≤1000000000:=by have:=HIL.out;have:=h4.1;omega
 clear h4 hb4;go_simp;refine hK.out _ _ hb4' (fun _=>?_);clear hK K;refine Zk 14 (fun K hK=>?_);go_simp;with_reducible refine (Qju A4 n4 c4 _ (a:Int) w4 H4.out hn4l).mono ?_
 rintro r w' ⟨rfl,rfl⟩;rw [HPI.out];go_simp;refine hK.out _ _ hb4' (fun _=>?_);clear hK K;refine Zk 17 (fun K hK=>?_);go_simp;with_reducible refine (HOU.out _ (Zb hb1 hb4')).mono ?_
 rintro r w5 ⟨A5,n5,c5,rfl,h5,hb5⟩;have hb5':Below w1.heap.size w1 w5:=Zb hb4' hb5;have H5:=Zh h5;have hn5l:n5≤1000000000:=by have:=HOL.out;have:=h5.1;omega
 clear h5 hb5;go_simp;refine hK.out _ _ hb5' (fun _=>?_);clear hK K;refine Zk 19 (fun K hK=>?_);go_simp;with_reducible refine (Qju A5 n5 c5 _ (b:Int) w5 H5.out hn5l).mono ?_
 rintro r w' ⟨rfl,rfl⟩;rw [HPQ.out trivial];go_simp;refine hK.out _ _ hb5' (fun _=>?_);clear hK K;refine Zk 20 (fun K hK=>?_);go_simp;with_reducible refine (HTA.out _ (Zb hb1 hb5') trivial).mono ?_
 rintro r w6 ⟨z,hz,rfl,hb6⟩;have hb6':Below w1.heap.size w1 w6:=Zb hb5' hb6;have HZ:=Zh (HTN.out z trivial hz);clear hz hb6;go_simp;refine hK.out _ _ hb6' (fun _=>?_);clear hK K;refine tz 21 6 ?_;refine Zd ?_
 go_wp2_with fail
 go_ret
 rw [HZ.out];exact ⟨rfl,Zb hb1 hb6'⟩
theorem Qdg.inv {St:Qbd}{s p:Nat}{c:Int}{L:List Nat}(h:Qdg St s p c L):(L=[]∧p=s∧c=0)∨∃ p' c' d l',L=l' ++[p]∧c=c'+d∧Qdg St s p' c' l'∧St p' p d:=by
 cases h with
 | start=>exact .inl ⟨rfl,rfl,rfl⟩
 | step h1 h2=>exact .inr ⟨_,_,_,_,rfl,rfl,h1,h2⟩
theorem Qdg.fn {St:Qbd}(hf:∀ p q d d',St p q d→St p q d'→d=d'){s p:Nat}{c:Int}{L:List Nat}(h:Qdg St s p c L):∀ {p':Nat} {c':Int},Qdg St s p' c' L→p=p'∧c=c':=by
 induction h with
 | start =>
  intro p' c' g
  rcases g.inv with ⟨_,rfl,rfl⟩|⟨_,_,_,l',e,_⟩
  · exact ⟨rfl,rfl⟩
  · simp at e
 | @step p q c d l h1 h2 ih =>
  intro p' c' g
  rcases g.inv with ⟨e,_⟩|⟨r,c2,d2,l',e,rfl,g1,g2⟩
  · simp at e
  · obtain ⟨e1,e2⟩:=List.append_inj' e rfl
    subst e1;obtain rfl:q=p':=by simpa using e2
    obtain ⟨rfl,rfl⟩:=ih g1;exact ⟨rfl,by rw [hf _ _ _ _ h2 g2]⟩
theorem StW.fn {N:Qam}{p q:Nat}{d d':Int}(h:StW N p q d)(g:StW N p q d'):d=d':=by
 obtain ⟨y,hy,_,_,rfl⟩:=h;obtain ⟨z,hz,_,_,rfl⟩:=g;rw [hy] at hz
 cases hz
 rfl
theorem Qdg.pair {St:Qbd}{s t:Nat}{v:Int}{l:List Nat}(h:Qdg St s t v l):∀ (i q:Nat),l[i]?=some q→∃ p c d,(s::l)[i]?=some p∧Qdg St s p c (l.take i)∧St p q d:=by
 induction h with
 | start=>intro i q hq;simp at hq
 | @step p r c d l h1 h2 ih =>
  intro i q hq;have hi:=(Zs hq).1;rw [Yp,List.length_singleton] at hi
  rcases Nat.lt_or_ge i l.length with h3|h3
  · rw [Yc h3] at hq
    obtain ⟨p',c',d',g1,g2,g3⟩:=ih i q hq;refine ⟨p',c',d',?_,by rw [List.take_append_of_le_length (by omega)];exact g2,g3⟩;rw [←List.cons_append,Yc (by simp;omega)];exact g1
  · obtain rfl:i=l.length:=by omega
    rw [Yb (Zn _),Yy] at hq;obtain rfl:r=q:=by simpa using hq
    refine ⟨p,c,d,?_,by rw [List.take_append_of_le_length (Zn _),List.take_length];exact h1,h2⟩;rw [←List.cons_append,Yc (by simp)]
    rcases h1.inv with ⟨rfl,rfl,_⟩|⟨_,_,_,l',rfl,_⟩
    · rfl
    · rw [Yp,List.length_singleton,List.getElem?_cons_succ,Yb (Zn _),Yy]
      rfl
section
variable (w:World) (A B C:Option Addr) (n m k c d e:Nat) (N:Qam) (X:Option Addr) (nx cx s t:Nat) (v:Int) (l:List Nat)
set_option maxRecDepth 20000 in
set_option maxHeartbeats 2000000 in
theorem Quu (h:Qce w A B C n m k N)(hok:Qap N) (hs:∃ xs,N.ar[s]?=some xs∧xs.2.2≠1152921504606846976) (hr:Qdg (StW N) s t v l) (hX:RdI w X nx (nis (s::l))) (hn:nx≤1000000000) :
 Calls prog 77 #[.agg #[.slice A n c,.slice B m d,.slice C k e],.slice X nx cx] w fun r w'=>r=.returned (.bool true)∧Below w.heap.size w w':=by
 have hm:m=N.ar.length:=h.2.1.1.symm;have hnx:nx=l.length+1:=by have:=hX.1;rw [Qck,List.length_cons] at this;exact this.symm
 have HEL:=Zh (show ∀ (i q:Nat),(s::l)[i]?=some q→∃ y,N.ar[q]?=some y∧y.2.2≠1152921504606846976 from fun i q hq=>by
  cases i with
  | zero=>cases hq;exact hs
  | succ i =>
   rw [List.getElem?_cons_succ] at hq;obtain ⟨_,_,y,hy,_,h2,_⟩:=hr.mem (Zm hq);exact ⟨y,hy,h2⟩)
 have HPR:=Zh (fun i q hq=>hr.pair i q hq);have HTU:=Zh (fun V (hV:Below w.heap.size w V) a b x y hx hy=>Qik A B C n m k c d e N a b x y V (h.below hV) hok hx hy);have HH:=Zh h;have HX:=Zh hX;have HM:=Zh hm;have HNX:=Zh hnx;clear h hok hs hr hX hm hnx
 go_enter func77,ntmps77
 go_wp2_with fail
 (refine Qai ?_;intro w1 hw1)
 have hb1:Below w.heap.size w w1:=by rw [hw1];exact Qah
 have HJ:=Zh (show Blk w1 w.heap.size 26 #[.slice A n c,.slice B m d,.slice C k e] by rw [hw1];exact Qbh)
 have HB1:=Zh hb1;clear hw1 hb1
 go_loopw [5] (fun ui W=>∃ i:Nat,i≤nx∧ui=.int .i64 i∧Below w1.heap.size w1 W) (fun ui _=>nx-(intOf ui).toNat)
 case atStart=>exact ⟨0,Nat.zero_le _,rfl,Zr _ _⟩
 case round =>
  obtain ⟨i,hi,rfl,hbl⟩:=hrel;have HBL:=Zh hbl
  by_cases hlt:i<nx
  rotate_left
  · obtain rfl:i=nx:=by omega
    have j2:¬((i:Int)<(i:Int)):=by omega
    have j3:0<i:=by have:=HNX.out;omega
    clear hbl
    go_wp2_with fail
    go_ret
    exact ⟨rfl,Zb HB1.out HBL.out⟩
  obtain ⟨q,hq⟩:∃ q,(s::l)[i]?=some q:=⟨_,Zg (by rw [List.length_cons];have:=HNX.out;omega)⟩;obtain ⟨y,hy,hyw⟩:=HEL.out i q hq;obtain ⟨xb,xo,hXA,x0⟩:=HX.out.2 i (q:Int) (Qcd hq);have hqm:q<m:=by rw [HM.out];exact (Zs hy).1
  have hbw:=Zb HB1.out hbl;obtain ⟨ab,ao,hB,_,_,d2⟩:=(HH.out.below hbw).2.1.2 q y hy;subst hXA;subst hB;have j1:(i:Int)<(nx:Int):=by omega
  have j2:(0:Int)≤(i:Int):=by omega
  have j3:(q:Int)<(m:Int):=by omega
  have j4:(0:Int)≤(q:Int):=by omega
  have hw1:decide (y.2.2=1152921504606846976)=false:=by simpa using hyw
  have hw2:(y.2.2 == 1152921504606846976)=false:=by simpa using hyw
  have HY:=Zh hy;have HQ:=Zh hq;clear hy hyw hbl hq
  cases i with
  | zero =>
   rw [Nat.add_zero] at x0
   have HSX:=Zh (show ∀ V,Below wr.heap.size wr V→V.cell? ⟨w.heap.size,0,none⟩=some (.slice A n c)∧V.cell? ⟨w.heap.size,1,none⟩=some (.slice (some ⟨ab,ao,none⟩) m d)∧V.cell? ⟨w.heap.size,2,none⟩=some (.slice C k e)∧V.cell? ⟨xb,xo,none⟩=some (.int .i64 (q:Int))∧V.cell? ⟨ab,ao+q*3+2,none⟩=some (.int .i64 y.2.2) from fun V hV=>by
    have hJ:=HJ.out.below (Zb HBL.out hV) HJ.out.lt;exact ⟨Zq hJ,Zq hJ,Zq hJ,Zc (Zb hbw hV) (Zn _) x0,Zc hV (Zn _) d2⟩)
   clear d2 x0
   go_wp2_with fail
   refine wp_region_held_drew (S:=fun V=>Below wr.heap.size wr V) (by kernel_rfl) (Zr _ _).drew (fun _=>?_);refine tz 0 12 ?_;refine tz 1 13 ?_;refine tz 2 14 ?_;refine tz 3 15 ?_;refine tz 4 16 ?_;refine Zk 5 (fun K hK=>?_);go_simp;with_reducible refine (Qcw A (some ⟨ab,ao,none⟩) C n m k c d e q _ (by omega) (by omega)).mono ?_
   rintro r w6 ⟨rfl,hb6⟩;have hb6':Below wr.heap.size wr w6:=(Zr _ _).drew.trans hb6;go_simp;refine hK.out _ _ hb6' (fun _=>?_);clear hK K;refine tz 6 18 ?_;refine tz 7 19 ?_;refine tz 8 20 ?_;refine tz 9 21 ?_;refine tz 10 22 ?_;refine tz 11 23 ?_;refine tz 12 24 ?_;refine tz 13 25 ?_;refine tz 14 26 ?_;refine tz 15 27 ?_;refine tz 16 28 ?_;refine tz 17 29 ?_;refine tz 18 30 ?_;refine tz 19 31 ?_;refine tz 20 32 ?_;refine tz 21 33 ?_;refine tz 22 34 ?_;refine tw 23 35 ?_;refine tw 24 36 ?_;refine tw 25 37 ?_;refine tw 26 38 ?_;refine tw 27 39 ?_;refine tw 28 40 ?_;refine tw 29 41 ?_;refine tw 30 42 ?_;refine tw 31 43 ?_;refine tw 32 44 ?_;refine tw 33 45 ?_;refine tw 34 46 ?_;refine tz 35 47 ?_;refine tz 36 48 ?_;refine Zd ?_;have HB6:=Zh (Zb HBL.out hb6');clear hb6 hb6' HSX
   go_wp2_with fail
   go_roundw
   case rel=>exact ⟨1,by omega,by go_num,HB6.out⟩
   case measure=>simp [intOf];omega
  | succ i =>
   have HQ2:=HQ;have hq2:=HQ.out;rw [List.getElem?_cons_succ] at hq2;obtain ⟨p,c1,d1,hp,_,z,_,ht,_⟩:=HPR.out i q hq2;obtain ⟨x,hx,_⟩:=HEL.out i p hp;have hx1:=(HX.out.2 i (p:Int) (Qcd hp));obtain ⟨_,_,e9,x1⟩:=hx1
   cases e9
   have ht1:decide (Qaq N p q=1152921504606846976)=false:=by simpa using ht
   have ht2:(Qaq N p q == 1152921504606846976)=false:=by simpa using ht
   obtain ⟨T,hT⟩:∃ T,T=Qaq N p q:=⟨_,rfl⟩;have HTQ:=Zh (fun V (hV:Below wr.heap.size wr V)=>hT▸HTU.out V (Zb hbw hV) p q x y hx HY.out);rw [←hT] at ht1 ht2;have j5:((i+1:Nat):Int)-1=(i:Int):=by omega
   have j6:decide (0<i+1)=true:=by simp
   have j6b:0<i+1:=by omega
   have j7:(i:Int)<(nx:Int):=by omega
   have j8:(0:Int)≤(i:Int):=by omega
   have wl:IntKind.i64.wrap (i:Int)=(i:Int):=IntWalk.i64_in _ (by omega);obtain ⟨I,hI⟩:∃ I,I=i+1:=⟨_,rfl⟩;rw [←hI] at j1 j2 j5 j6 j6b x0 ⊢;have HII:=Zh hI
   have HSX:=Zh (show ∀ V,Below wr.heap.size wr V→V.cell? ⟨w.heap.size,0,none⟩=some (.slice A n c)∧V.cell? ⟨w.heap.size,1,none⟩=some (.slice (some ⟨ab,ao,none⟩) m d)∧V.cell? ⟨w.heap.size,2,none⟩=some (.slice C k e)∧V.cell? ⟨xb,xo+I,none⟩=some (.int .i64 (q:Int))∧V.cell? ⟨xb,xo+i,none⟩=some (.int .i64 (p:Int))∧V.cell? ⟨ab,ao+q*3+2,none⟩=some (.int .i64 y.2.2) from fun V hV=>by
    have hJ:=HJ.out.below (Zb HBL.out hV) HJ.out.lt;exact ⟨Zq hJ,Zq hJ,Zq hJ,Zc (Zb hbw hV) (Zn _) x0,Zc (Zb hbw hV) (Zn _) x1,Zc hV (Zn _) d2⟩)
   clear d2 x0 x1 hI hT ht hp hx hq2
   go_wp2_with fail
   refine wp_region_held_drew (S:=fun V=>Below wr.heap.size wr V) (by kernel_rfl) (Zr _ _).drew (fun _=>?_);refine tz 0 12 ?_;refine tz 1 13 ?_;refine tz 2 14 ?_;refine tz 3 15 ?_;refine tz 4 16 ?_;refine Zk 5 (fun K hK=>?_);go_simp;with_reducible refine (Qcw A (some ⟨ab,ao,none⟩) C n m k c d e q _ (by omega) (by omega)).mono ?_
   rintro r w6 ⟨rfl,hb6⟩;have hb6':Below wr.heap.size wr w6:=(Zr _ _).drew.trans hb6;go_simp;refine hK.out _ _ hb6' (fun _=>?_);clear hK K;refine tz 6 18 ?_;refine tz 7 19 ?_;refine tz 8 20 ?_;refine tz 9 21 ?_;refine tz 10 22 ?_;refine tz 11 23 ?_;refine tz 12 24 ?_;refine tz 13 25 ?_;refine tz 14 26 ?_;refine tz 15 27 ?_;refine tz 16 28 ?_;refine tz 17 29 ?_;refine tz 18 30 ?_;refine tz 19 31 ?_;refine tz 20 32 ?_;refine tz 21 33 ?_;refine tz 22 34 ?_;refine tz 23 35 ?_;refine tz 24 36 ?_;refine tz 25 37 ?_;refine tz 26 38 ?_;refine tz 27 39 ?_;refine tz 28 40 ?_;refine tz 29 41 ?_;refine tz 30 42 ?_;refine tz 31 43 ?_;refine tz 32 44 ?_;refine Zk 33 (fun K hK=>?_);go_simp;with_reducible refine (HTQ.out w6 hb6').mono ?_
   rintro r w7 ⟨rfl,hb7⟩;have hb7':Below wr.heap.size wr w7:=Zb hb6' hb7;go_simp;refine hK.out _ _ hb7' (fun _=>?_);clear hK K;refine tz 34 46 ?_;refine tz 35 47 ?_;refine tz 36 48 ?_;refine Zd ?_;have HB7:=Zh (Zb HBL.out hb7');clear hb6 hb6' hb7 hb7' HSX HTQ
   go_wp2_with fail
   go_roundw
   case rel=>exact ⟨I+1,by omega,by go_num,HB7.out⟩
   case measure=>simp [intOf];omega
set_option maxRecDepth 20000 in
set_option maxHeartbeats 2000000 in
theorem Quk (h:Qce w A B C n m k N)(hok:Qap N) (hs:∃ xs,N.ar[s]?=some xs∧xs.2.2≠1152921504606846976) (hr:Qdg (StW N) s t v l) (hv:v≤70373039144960) (hX:RdI w X nx (nis (s::l))) (hn:nx≤1000000000) :
 Calls prog 29 #[.agg #[.slice A n c,.slice B m d,.slice C k e],.slice X nx cx] w fun r w'=>r=.returned (.int .i64 v)∧Below w.heap.size w w':=by
 have hm:m=N.ar.length:=h.2.1.1.symm;have hnx:nx=l.length+1:=by have:=hX.1;rw [Qck,List.length_cons] at this;exact this.symm
 have hpos:∀ p q d,StW N p q d→0≤d:=fun p q d h=>(h.bd hok).1
 have HPR:=Zh (show ∀ (i p q:Nat) (c1:Int),(s::l)[i]?=some p→l[i]?=some q→Qdg (StW N) s p c1 (l.take i)→∃ x y,N.ar[p]?=some x∧N.ar[q]?=some y∧(0≤Qaq N p q∧Qaq N p q≤2147483648)∧(0≤y.2.2∧y.2.2≤2147483648)∧0≤c1∧c1+(Qaq N p q+y.2.2)≤v∧Qdg (StW N) s q (c1+(Qaq N p q+y.2.2)) (l.take (i+1)) from fun i p q c1 hp hq hr1=>by
  obtain ⟨p',c',d',g1,g2,g3⟩:=hr.pair i q hq;rw [hp] at g1
  cases g1
  obtain ⟨x,y,hx,hy,_,h1,h2,rfl⟩:=g3.ends
  have hr2:Qdg (StW N) s q (c1+(Qaq N p q+y.2.2)) (l.take (i+1)):=by
   rw [Qhq hq];exact hr1.step g3
  obtain ⟨c3,c4,g5,g6,rfl⟩:=hr.at_ (i+1) q (by rw [List.getElem?_cons_succ];exact hq);obtain ⟨_,e⟩:=hr2.fn (fun _ _ _ _ a b=>a.fn b) g5;have h4:=g6.rch.pos hpos;have h5:=hr1.rch.pos hpos;have ht:=(Qcu hok p q).resolve_left h1;have hw:=(Qdq (hok.arcs y (Zm hy)).w).resolve_left h2;exact ⟨x,y,hx,hy,ht,hw,h5,by omega,hr2⟩)
 have HEND:=Zh (fun p c1 (g:Qdg (StW N) s p c1 l)=>(hr.fn (fun _ _ _ _ a b=>a.fn b) g).2);have HTU:=Zh (fun V (hV:Below w.heap.size w V) a b x y hx hy=>Qik A B C n m k c d e N a b x y V (h.below hV) hok hx hy);have HWK:=Zh (fun V (hV:Below w.heap.size w V)=>Quu V A B C n m k c d e N X nx cx s t v l (h.below hV) hok hs hr (hX.below hV) hn);have HH:=Zh h;have HX:=Zh hX;have HM:=Zh hm;have HNX:=Zh hnx;clear h hok hs hr hX hm hnx hpos
 go_enter func29,ntmps29
 go_wp2_with fail
 (refine Qae ?_;intro w1 hw1)
 have hb1:Below w.heap.size w w1:=by rw [hw1];exact Qah
 have hJ1:Blk w1 w.heap.size 26 #[.slice A n c,.slice B m d,.slice C k e]:=by rw [hw1];exact Qbh
 clear hw1;with_reducible refine (HWK.out w1 hb1).mono ?_
 rintro r w2 ⟨rfl,hb2⟩;have HJ:=Zh (hJ1.below hb2 hJ1.lt);have HB2:=Zh (Zb hb1 hb2);clear hb1 hJ1 hb2 HWK
 go_wp2_with fail
 go_loopw [5,6] (fun us ui W=>∃ (I p:Nat) (c1:Int),I+1≤nx∧ui=.int .i64 ((I:Int)+1)∧us=.int .i64 c1∧(s::l)[I]?=some p∧Qdg (StW N) s p c1 (l.take I)∧Below w2.heap.size w2 W) (fun _ ui _=>nx-(intOf ui).toNat)
 case atStart=>exact ⟨0,s,0,by have:=HNX.out;omega,rfl,rfl,rfl,.start,Zr _ _⟩
 case round =>
  obtain ⟨I,p,c1,hK1,rfl,rfl,hp,hrc,hbl⟩:=hrel;have HBL:=Zh hbl
  by_cases hlt:I+1<nx
  rotate_left
  · have hKl:I=l.length:=by have:=HNX.out;omega
    have j2:¬((I:Int)+1<(nx:Int)):=by omega
    have HC1:=Zh (HEND.out p c1 (by rw [hKl,List.take_length] at hrc;exact hrc));clear hbl hp hrc hKl
    go_wp2_with fail
    go_ret
    exact ⟨by have h9:=HC1.out;subst h9;rfl,Zb HB2.out HBL.out⟩
  obtain ⟨q,hq⟩:∃ q,l[I]?=some q:=⟨_,Zg (by have:=HNX.out;omega)⟩;obtain ⟨x,y,hx,hy,hT,hW,hc0,hcv,hrn⟩:=HPR.out I p q c1 hp hq hrc;obtain ⟨xb,xo,hXA,x0⟩:=HX.out.2 I (p:Int) (Qcd hp);obtain ⟨_,_,e9,x1⟩:=HX.out.2 (I+1) (q:Int) (Qcd (by rw [List.getElem?_cons_succ];exact hq));rw [hXA] at e9
  cases e9
  have hqm:q<m:=by rw [HM.out];exact (Zs hy).1
  have hbw:=Zb HB2.out hbl;obtain ⟨ab,ao,hB,_,_,d2⟩:=(HH.out.below hbw).2.1.2 q y hy;subst hXA;subst hB;obtain ⟨T,hTe⟩:∃ T,T=Qaq N p q:=⟨_,rfl⟩;obtain ⟨wy,hwy⟩:∃ W,W=y.2.2:=⟨_,rfl⟩;have HTQ:=Zh (fun V (hV:Below wr.heap.size wr V)=>hTe▸HTU.out V (Zb hbw hV) p q x y hx hy);rw [←hTe,←hwy] at hrn hcv;rw [←hTe] at hT;rw [←hwy] at hW d2;have a1:Qex T wy=T+wy:=by unfold Qex;rw [if_neg (by omega)]
  have a2:Qex c1 (T+wy)=c1+(T+wy):=by unfold Qex;rw [if_neg (by omega)]
  have HA1:=Zh (fun V=>a1▸Qge T wy V ⟨by omega,by omega⟩ ⟨by omega,by omega⟩);have HA2:=Zh (fun V=>a2▸Qge c1 (T+wy) V ⟨by omega,by omega⟩ ⟨by omega,by omega⟩);have HRN:=Zh hrn;have HQ:=Zh hq;have j1:(I:Int)+1<(nx:Int):=by omega
  have j2:(0:Int)≤(I:Int):=by omega
  have j3:(q:Int)<(m:Int):=by omega
  have j4:(0:Int)≤(q:Int):=by omega
  have j5:(I:Int)+1-1=(I:Int):=by omega
  have j6:(I:Int)<(nx:Int):=by omega
  have j7:(0:Int)≤(I:Int)+1:=by omega
  have wl:IntKind.i64.wrap (I:Int)=(I:Int):=IntWalk.i64_in _ (by omega);have j8:((I:Int)+1).toNat=I+1:=by omega
  have HSX:=Zh (show ∀ V,Below wr.heap.size wr V→V.cell? ⟨w.heap.size,0,none⟩=some (.slice A n c)∧V.cell? ⟨w.heap.size,1,none⟩=some (.slice (some ⟨ab,ao,none⟩) m d)∧V.cell? ⟨w.heap.size,2,none⟩=some (.slice C k e)∧V.cell? ⟨xb,xo+I,none⟩=some (.int .i64 (p:Int))∧V.cell? ⟨xb,xo+(I+1),none⟩=some (.int .i64 (q:Int))∧V.cell? ⟨ab,ao+q*3+2,none⟩=some (.int .i64 wy) from fun V hV=>by
   have hJ:=HJ.out.below (Zb HBL.out hV) HJ.out.lt;exact ⟨Zq hJ,Zq hJ,Zq hJ,Zc (Zb hbw hV) (Zn _) x0,Zc (Zb hbw hV) (Zn _) x1,Zc hV (Zn _) d2⟩)
  clear hp hrc hbl hq hx hy hT hW hc0 hcv hrn x0 x1 d2 a1 a2 hTe hwy hqm
  go_wp2_with fail
  refine wp_region_held_drew (S:=fun V=>Below wr.heap.size wr V) (by kernel_rfl) (Zr _ _).drew (fun _=>?_);refine tz 0 17 ?_;refine tz 1 18 ?_;refine tz 2 19 ?_;refine tz 3 20 ?_;refine tz 4 21 ?_;refine tz 5 22 ?_;refine tz 6 23 ?_;refine tz 7 24 ?_;refine tz 8 25 ?_;refine tz 9 26 ?_;refine tz 10 27 ?_;refine tz 12 29 ?_;refine tz 13 30 ?_;refine tz 14 31 ?_;refine tz 15 32 ?_;refine tz 16 33 ?_;refine tz 17 34 ?_;refine tz 18 35 ?_;refine tz 19 36 ?_;refine tz 20 37 ?_;refine Zk 11 (fun K hK=>?_);go_simp;with_reducible refine (HTQ.out _ (Zr _ _).drew).mono ?_
  rintro r w6 ⟨rfl,hb6⟩;have hb6':Below wr.heap.size wr w6:=(Zr _ _).drew.trans hb6;go_simp;refine hK.out _ _ hb6' (fun _=>?_);clear hK;refine Zk 21 (fun K hK=>?_);go_simp;with_reducible refine (HA1.out _).mono ?_
  rintro r w7 ⟨rfl,rfl⟩;go_simp;refine hK.out _ _ hb6' (fun _=>?_);refine Zk 22 (fun K hK=>?_);go_simp;with_reducible refine (HA2.out _).mono ?_
  rintro r w7 ⟨rfl,rfl⟩;go_simp;refine hK.out _ _ hb6' (fun _=>?_);refine tz 23 5 ?_;refine Zd ?_;have HB6:=Zh (Zb HBL.out hb6');clear hb6 hb6' HSX HTQ HA1 HA2
  go_wp2_with fail
  go_roundw
  case rel=>exact ⟨I+1,q,_,by omega,by go_num,rfl,by rw [List.getElem?_cons_succ];exact HQ.out,HRN.out,HB6.out⟩
  case measure=>simp [intOf];omega
end
end Go.Proofs.YtdheeddnkdhfeaaGreatDoor
