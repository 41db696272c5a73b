/- For every input AskChanged returns true, and its arguments read afterwards as before; package errors' variable errorType tied to the program's text. No condition. -/
/- Parts of the proof: Acg, Open, OpN, Laid, AcgP. -/
import Derived.Test.YtdheeddnkdhfeaaGreatDoorJ23
import Derived.Test.YtdheeddnkdhfeaaGreatDoorRows
import Derived.ProofKit
import Derived.OpenShut
import Derived.Deep.Slices
import Derived.SizedLaws
import Derived.ChangeArms
import Derived.Test.YtdheeddnkdhfeaaGreatDoorTie
import Derived.Test.YtdheeddnkdhfeaaGreatDoorCards
import Derived.Handed
import Derived.ChangeSame
import Derived.ChangeVars
import Derived.JoinedOf
import Derived.LaidLaws
import Derived.LaidHandle
import Derived.SevenTiedAt
namespace Go.Proofs.YtdheeddnkdhfeaaGreatDoor
open Go.RowKit Go.Extern.Stop Go.Stop Go.Extern Go.Proofs.Tryz
attribute [local go_sem ↓] Go.wp_at_zero Go.wp_at_succ
set_option maxRecDepth 20000 in
set_option maxHeartbeats 60000000 in
theorem Qlb (A B C Q:Option Addr)(n m k c d e L cq:Nat)(N:Qak) (ls:List (List Int)) (R:Option Addr) (la ca:Nat) (ac:List Quin) (s t:Int) (w:World) (h:Qbg w A B C n m k N) (hk:k≤9223372036854775807) (hq:RdT w Q L ls) (hL:L≤9223372036854775807) (ha:RdA w R la ac) (hla:la≤9223372036854775807) (hg:w.cell? ⟨0,0,none⟩=some Qjb) :
 Calls prog 3 #[.agg #[.slice A n c,.slice B m d,.slice C k e],.agg #[.slice Q L cq],.slice R la ca,.int .i64 s,.int .i64 t] w fun r w'=>r=.returned (.bool true)∧Below w.heap.size w w':=by
 have HAC:=Zh ha;clear ha;have HH:=Zh h;have HT:=Zh hq;have HG:=Zh hg;have HNA:=Zh (show N.ar.length=m from h.2.1.1)
 have HNV:=Zh (show N.vs.length=n from h.1.1)
 clear h hq hg
 go_enter func3,ntmps3
 go_wp2_with fail
 (refine Qab ?_;intro w1 hw1)
 have hb1:Below w.heap.size w w1:=by rw [hw1];exact Qag
 have hX:Blk w1 w.heap.size 26 #[.slice A n c,.slice B m d,.slice C k e]:=by rw [hw1];exact Qay
 have hY:Blk w1 (w.heap.size+1) 29 #[.slice Q L cq]:=by rw [hw1];exact Qay
 clear hw1;with_reducible refine (Quv w1 (Zc hb1 (Zn _) HG.out)).mono ?_
 rintro r w2 ⟨rfl,hb2⟩;have hq2:=hb2;have hX2:=hX.below hb2 hX.lt;have hY2:=hY.below hb2 hY.lt;have hb2':=Zb hb1 hb2;clear hX hY hb1 hb2;obtain ⟨x0,x1,x2⟩:=hX2.three;have y0:=hY2.cell 0;simp only [Yo,Yn] at y0
 go_wp2_with fail
 with_reducible refine (Rak A B C Q n m k c d e L cq N ls w2 (HH.out.below hb2') hk (HT.out.below hb2') hL).mono ?_
 rintro r w3 ⟨hr,hb3⟩;have hb3':=Zb hb2' hb3;have hq3:=Zb hq2 hb3;have hX3:=hX2.below hb3 hX2.lt;have hY3:=hY2.below hb3 hY2.lt;clear x0 x1 x2 y0 hX2 hY2 hb2' hb3 hq2;obtain ⟨b,rfl,hGG⟩:=hr
 cases b with
 | false =>
  clear hGG
  go_wp2_with fail
  go_ret
  exact ⟨rfl,hb3'⟩
 | true =>
 have hmay:=hGG rfl;clear hGG;have HMAY:=Zh hmay;have hok:=hmay.small.ok;clear hmay;obtain ⟨x0,x1,x2⟩:=hX3.three;have y0:=hY3.cell 0;simp only [Yo,Yn] at y0;have hz3:w.heap.size+2≤w3.heap.size:=by have:=hY3.lt;omega
 have HZ3:=Zh hz3;clear hz3
 by_cases h12:(la:Int) > 12
 · go_wp2_with fail
   go_ret
   exact ⟨rfl,hb3'⟩
 by_cases hs:0≤s∧s<(m:Int)
 rotate_left
 · go_wp2_with fail
   with_reducible refine (Qeh A B C n m k c d e s w3 hs).mono ?_
   rintro r w4 ⟨rfl,hb4⟩
   go_wp2_with fail
   go_ret
   exact ⟨rfl,Zb hb3' hb4⟩
 go_wp2_with fail
 with_reducible refine (Qbx A B C n m k c d e s w3 hs.1 hs.2).mono ?_
 rintro r w4 ⟨rfl,hb4⟩;clear x0 x1 x2 y0;have hX4:=hX3.below hb4 hX3.lt;obtain ⟨x0,x1,x2⟩:=hX4.three
 by_cases ht:0≤t∧t<(m:Int)
 rotate_left
 · go_wp2_with fail
   with_reducible refine (Qeh A B C n m k c d e t w4 ht).mono ?_
   rintro r v5 ⟨rfl,hb5⟩
   go_wp2_with fail
   go_ret
   exact ⟨rfl,Zb hb3' (Zb hb4 hb5)⟩
 go_wp2_with fail
 with_reducible refine (Qbx A B C n m k c d e t w4 ht.1 ht.2).mono ?_
 rintro r u5 ⟨rfl,hb5⟩;have hb35:=Zb hb4 hb5;clear x0 x1 x2;have hX5a:=hX3.below hb35 hX3.lt;have hY5a:=hY3.below hb35 hY3.lt;have hb5a:=Zb hb3' hb35;have hq5a:=Zb hq3 hb35;have HZ3:=Zh (show w.heap.size+2≤u5.heap.size by have:=HZ3.out;have:=hb35.size;omega)
 clear hX3 hY3 hX4 hb3' hq3 hb4 hb5 hb35;obtain ⟨s,rfl⟩:∃ sn:Nat,s=(sn:Int):=⟨s.toNat,by omega⟩;obtain ⟨t,rfl⟩:∃ tn:Nat,t=(tn:Int):=⟨t.toNat,by omega⟩;have hsm:s<m:=by omega
 have htm:t<m:=by omega
 clear hs ht;obtain ⟨x0,x1,x2⟩:=hX5a.three;have y0:=hY5a.cell 0;simp only [Yo,Yn] at y0
 go_wp2_with fail
 clear h12;with_reducible refine (Qul A B C Q n m k c d e L cq N ls u5 (HH.out.below hb5a) hok (HT.out.below hb5a) HMAY.out.part (Qtp HMAY.out)).mono ?_
 unfold Qtl;rintro r w5 ⟨⟨g,o,CB,NC,cl,F,rfl,hNCe,hG5,hF5,hO5,hC5,hA5⟩,hb5⟩;have HNC:=Zh hNCe;have HB5:=Zh (Zb hb5a hb5);have HQ5:=Zh (Zb hq5a hb5);have HX5:=Zh (hX5a.below hb5 hX5a.lt);have HY5:=Zh (hY5a.below hb5 hY5a.lt);have HG5:=Zh hG5.rd;have HO5:=Zh (hO5.le (Qbd _ _));have HC5:=Zh (show RdI w5 (some ⟨CB,0,none⟩) NC cl from ⟨hC5.1,fun i x hx=>by obtain ⟨b,o,e,h1⟩:=hC5.2 i x hx;exact ⟨b,o,e,Qbd _ _ _ _ h1⟩⟩)
 have HALL:=Zh hA5;have HGO:=Zh hG5;have HFO:=Zh hF5;have HOO:=Zh hO5;have HZ5:=Zh hb5.size;clear x0 x1 x2 y0 hX5a hY5a hb5 hb5a hNCe hG5 hF5 hO5 hC5 hA5 hq5a;obtain ⟨x0,x1,x2⟩:=HX5.out.three;have y0:=HY5.out.cell 0;simp only [Yo,Yn] at y0;have hz3:=HZ3.out;have hnf:∀ b,F b→u5.heap.size≤b:=fun b hb=>(HFO.out b hb).1
 have hnr:Qbg (msk w5 (fun b=>¬F b∧b≠w.heap.size)) A B C n m k N:=HH.out.le (fun a v hc=>by
  have h9:=Qah hc;exact Qal.2 ⟨⟨fun hf=>by have:=hnf _ hf;omega,by omega⟩,Zc HB5.out (Zn _) hc⟩)
 have HNR:=Zh hnr;have HFW:=Zh HMAY.out.small.few;have HFN:=Zh hnf;clear hnr hnf x0 x1 x2 y0 HG5 HO5 HC5 HALL HQ5 hok
 go_wp2_with fail
 go_loopw [15] (fun q W=>Below w.heap.size w W∧Blk W (w.heap.size+1) 29 #[.slice Q L cq]∧∃ (i:Nat) (M:Qak) (FM:Nat→Prop) (A' B' C':Option Addr) (c' d' e':Nat),i≤la∧q=.int .i64 i∧Blk W w.heap.size 26 #[.slice A' n c',.slice B' m d',.slice C' k e']∧GrO W FM g M∧(∀ b,FM b→u5.heap.size≤b)∧(∀ b,FM b→F b∨w5.heap.size≤b)∧Qbg (msk W (fun b=>¬FM b∧b≠w.heap.size)) A' B' C' n m k M∧Qez M∧Qbo (fun b=>¬F b∧u5.heap.size≤b) w5 W∧RowKit.Hid (Qdf M.ar N.ar∧M.vs=N.vs)) (fun q _=>la-(intOf q).toNat)
 case atStart=>exact ⟨HB5.out,HY5.out,0,N,F,A,B,C,c,d,e,Nat.zero_le _,rfl,HX5.out,HGO.out,HFN.out,fun b hb=>.inl hb,HNR.out,HFW.out,Qbo.refl _ _,Zh ⟨⟨rfl,rfl⟩,rfl⟩⟩
 case round =>
  clear HX5 HY5;obtain ⟨hbl,hY,i,M,FM,A',B',C',c',d',e',hi,rfl,hX,hgr,hF3,hF0,hnr,hfew,hkz,hal⟩:=hrel;have HKZ:=Zh hkz;have HF0:=Zh hF0;clear hkz hF0;obtain ⟨x0,x1,x2⟩:=hX.three
  by_cases hlt:i<la
  · obtain ⟨ab,ao,kd,a1,a2,a3,a4,rfl,q0,q1,q2,q3,q4⟩:=HAC.out.at_ hlt
    have i1:(0:Int)≤(i:Int):=by omega
    have i2:(i:Int)<(la:Int):=by omega
    have hab:=Qah q0;simp only at hab;have hX':=hX;have hnF:∀ b,b<u5.heap.size→¬FM b:=fun b hb hf=>by have:=hF3 b hf;omega
    have hHSX:∀ X,Qbo (fun b=>¬FM b) wr X→X.cell? ⟨w.heap.size,0,none⟩=some (.slice A' n c')∧X.cell? ⟨w.heap.size,1,none⟩=some (.slice B' m d')∧X.cell? ⟨w.heap.size,2,none⟩=some (.slice C' k e') ∧
     X.cell? ⟨ab,ao+i*5,none⟩=some (.int .i64 kd)∧X.cell? ⟨ab,ao+i*5+1,none⟩=some (.int .i64 a1)∧X.cell? ⟨ab,ao+i*5+2,none⟩=some (.int .i64 a2)∧X.cell? ⟨ab,ao+i*5+3,none⟩=some (.int .i64 a3)∧X.cell? ⟨ab,ao+i*5+4,none⟩=some (.int .i64 a4):=fun X hX=>by
     obtain ⟨h0,h1,h2⟩:=(hX.blk hX' (hnF _ (by omega))).three;have ha:=hX.1 ab (hnF _ (by omega)) (by have:=hbl.size;omega);exact ⟨h0,h1,h2,Qcb ha (Zc hbl (Zn _) q0),Qcb ha (Zc hbl (Zn _) q1),Qcb ha (Zc hbl (Zn _) q2),Qcb ha (Zc hbl (Zn _) q3),Qcb ha (Zc hbl (Zn _) q4)⟩
    have HSX:=Zh hHSX
    have HDO:=Zh (show ∀ V,Below wr.heap.size wr V→Calls prog 12 #[.pointer (some ⟨g,0,none⟩),.agg #[.slice A' n c',.slice B' m d',.slice C' k e'],.agg #[.int .i64 kd,.int .i64 a1,.int .i64 a2,.int .i64 a3,.int .i64 a4]] V (DoA V FM (fun b=>b≠wr.heap.size∧b≠w.heap.size) g n m k M) from fun V hV =>
     do_anyA g A' B' C' n m k c' d' e' kd a1 a2 a3 a4 M FM _ V (hgr.below hV) (hnr.le (fun a v hc=>by
      obtain ⟨h1,h2⟩:=Qal.1 hc;have:=Qah h2;exact Qal.2 ⟨⟨h1.1,by omega,h1.2⟩,Zc hV (Zn _) h2⟩)) hfew (Zc (Zb hbl hV) (Zn _) HG.out) (fun b hb=>by have:=hF3 b hb;omega))
    have HLT:=Zh (show ∀ b,FM b→b<wr.heap.size from fun b hb=>hgr.lt hb)
    have HF3:=Zh hF3;have hzr:u5.heap.size≤wr.heap.size:=Yx HZ5.out HKZ.out.2;clear x0 x1 x2 q0 q1 q2 q3 q4 hHSX hgr hnr hfew hF3 hnF
    go_wp2_with fail
    refine wp_region_held_drew (S:=fun X=>Qbo (fun b=>¬FM b) wr X) (by kernel_rfl) ⟨Qbb.refl _ _,Zn _⟩ (fun _=>?_);refine tz 0 60 ?_;refine tz 1 61 ?_;refine tz 2 62 ?_;refine tz 3 63 ?_;refine tz 4 64 ?_;refine tz 5 65 ?_;refine wpAnyH_ready (rs:=[6,10]) (by kernel_rfl) (by simp) ?_;refine AllReadyH.cons (o:=_) rfl (fun K hK=>?_) (AllReadyH.cons (o:=_) rfl (fun K hK=>?_) AllReadyH.nil)
    · go_simp
      with_reducible refine (HDO.out _ (Zr _ _).drew).mono ?_
      rintro r w5a ⟨M2,hA2,A5,B5,C5,c5,d5,e5,FM2,rfl,hgr5,hnr5,hfew5,hFF,hk5,hz5,hb5⟩;have HA2:=Zh (show Qdf M2.ar N.ar∧M2.vs=N.vs from ⟨hA2.1.trans hal.out.1,hA2.2.trans hal.out.2⟩)
      clear hA2
      have HF2:=Zh (show ∀ b,FM2 b→F b∨w5.heap.size≤b from fun b hb=>by
       rcases hFF b hb with h|h
       · exact HF0.out b h
       · exact .inr (Yx HKZ.out.2 h))
      have hk5:Qbb (fun b=>¬FM b) wr w5a:=hk5;have hz5:wr.heap.size≤w5a.heap.size:=hz5
      go_wp2_with fail
      refine hK.out _ _ ⟨hk5,hz5⟩ (fun _=>?_);clear hK K;refine tz 7 59 ?_;refine tz 8 67 ?_;refine tz 9 68 ?_;have hgl5:∀ b,FM2 b→b<w5a.heap.size:=fun b hb=>hgr5.lt hb
      have hbw5:Below w.heap.size w w5a:=hbl.trans ((Zr _ _).drew.trans (hb5 w.heap.size (by have:=hbl.size;exact this) (fun b hb=>by have:=HF3.out b hb;omega)));obtain ⟨w6a,hw6⟩:∃ X,X=w5a.alloc (.cells #[.slice none 0 0,.slice none 0 0,.slice none 0 0] 26):=⟨_,rfl⟩;have hb56:Below w5a.heap.size w5a w6a:=by rw [hw6];exact Bel.alloc (Zr _ _)
      have hk6:Qbo (fun b=>¬FM b) wr w6a:=Qbo.step ⟨hk5,hz5⟩ hb56;obtain ⟨gt,hgtd⟩:∃ x,x=w5a.heap.size:=⟨_,rfl⟩;have hgt6:Blk w6a gt 26 #[.slice none 0 0,.slice none 0 0,.slice none 0 0]:=by rw [hw6,hgtd];exact Blk.new _ _ _
      have hFgt:¬FM2 gt:=fun hf=>by have:=hgl5 gt hf;omega
      have hgr6:GrO w6a FM2 g M2:=hgr5.below hb56
      have hF36:∀ b,FM2 b→u5.heap.size≤b:=fun b hb=>by
       rcases hFF b hb with h|h
       · exact HF3.out b h
       · exact Yx hzr h
      have hb6:Below w.heap.size w w6a:=Zb hbw5 hb56;have hgtz:wr.heap.size≤gt:=by omega
      have hnr6:Qbg (msk w6a (fun b=>¬FM2 b∧b≠gt∧b≠w.heap.size)) A5 B5 C5 n m k M2:=hnr5.le (fun a v hc=>by
       obtain ⟨⟨h1,h2⟩,h3⟩:=Qal.1 hc;have h4:=Qah h3
       have h5:a.block≠w.heap.size:=by
        rcases h2 with h2|h2
        · exact h2.2
        · have h6:wr.heap.size≤a.block:=h2
          have:=hbl.size;have:=hX'.lt;omega
       exact Qal.2 ⟨⟨h1,by omega,h5⟩,Zc hb56 (Zn _) h3⟩)
      refine Zk 10 (fun K hK=>?_);go_simp;rw [←hw6,←hgtd];refine hK.out _ _ hk6 (fun _=>?_);clear hK K hw6 hgtd hb56 hgr5 hnr5 hk5 hz5 hb5 hgl5 hbw5 hFF;obtain ⟨k0,k1,k2⟩:=hgt6.three;have fk0:=hgt6.frozen 0;have fk1:=hgt6.frozen 1;have fk2:=hgt6.frozen 2;obtain ⟨w7a,hw7⟩:∃ X,X=((w6a.setCell ⟨gt,0,none⟩ (.slice A5 n c5)).setCell ⟨gt,1,none⟩ (.slice B5 m d5)).setCell ⟨gt,2,none⟩ (.slice C5 k e5):=⟨_,rfl⟩;have hk7:Qbo (fun b=>¬FM b) wr w7a:=by rw [hw7];exact ((hk6.setNew hgtz _ _).setNew hgtz _ _).setNew hgtz _ _
      have hS7:Qbo (fun b=>b≠gt) w6a w7a:=by rw [hw7];exact (((Qbo.refl _ _).set (by simp) _ _).set (by simp) _ _).set (by simp) _ _
      have hgt7:Blk w7a gt 26 #[.slice A5 n c5,.slice B5 m d5,.slice C5 k e5]:=by rw [hw7];exact ((hgt6.set_ 0 _).set_ 1 _).set_ 2 _
      exact Kak
    · go_simp
      obtain ⟨v9,hv5⟩:∃ X,X=(wr.alloc (.cells #[.slice none 0 0,.slice none 0 0,.slice none 0 0] 26)).drew:=⟨_,rfl⟩;rw [←hv5];have hbv:Below wr.heap.size wr v9:=by rw [hv5];exact ((Zr _ _).alloc (Zn _) _).drew
      have hzv:v9.heap.size=wr.heap.size+1:=by rw [hv5];show (wr.heap.push _).size=_;exact Array.size_push ..
      obtain ⟨gt,hgtd⟩:∃ x,x=wr.heap.size:=⟨_,rfl⟩;have hgt5:Blk v9 gt 26 #[.slice none 0 0,.slice none 0 0,.slice none 0 0]:=by rw [hv5,hgtd];exact (Blk.new _ _ _).drew
      refine hK.out _ _ ⟨Qbb.below hbv,hbv.size⟩ (fun _=>?_);clear hK K hv5;rw [←hgtd];have HGD:=Zh hgtd;clear hgtd;refine Zk 6 (fun K hK=>?_);go_simp;with_reducible refine (HDO.out v9 hbv).mono ?_
      rintro r w6a ⟨M2,hA2,A5,B5,C5,c5,d5,e5,FM2,rfl,hgr6,hnr5,hfew5,hFF,hk5,hz5,hb5⟩;have HA2:=Zh (show Qdf M2.ar N.ar∧M2.vs=N.vs from ⟨hA2.1.trans hal.out.1,hA2.2.trans hal.out.2⟩)
      clear hA2
      have HF2:=Zh (show ∀ b,FM2 b→F b∨w5.heap.size≤b from fun b hb=>by
       rcases hFF b hb with h|h
       · exact HF0.out b h
       · exact .inr (by have:=HKZ.out.2;omega))
      have hgtd:=HGD.out;have hnFgt:¬FM gt:=fun hf=>by have:=HLT.out gt hf;omega
      have hk6:Qbo (fun b=>¬FM b) wr w6a:=⟨(Qbb.below hbv).trans hk5 hbv.size,Yx hbv.size hz5⟩;have hgt6:Blk w6a gt 26 #[.slice none 0 0,.slice none 0 0,.slice none 0 0]:=(hk5 gt hnFgt hgt5.lt).trans hgt5
      have hFgt:¬FM2 gt:=fun hf=>by
       rcases hFF gt hf with h|h
       · exact hnFgt h
       · omega
      have hF36:∀ b,FM2 b→u5.heap.size≤b:=fun b hb=>by
       rcases hFF b hb with h|h
       · exact HF3.out b h
       · omega
      have hb6:Below w.heap.size w w6a:=(Zb hbl hbv).trans (hb5 w.heap.size (by have:=hbl.size;omega) (fun b hb=>by have:=HF3.out b hb;omega));have hgtz:wr.heap.size≤gt:=by omega
      have hnr6:Qbg (msk w6a (fun b=>¬FM2 b∧b≠gt∧b≠w.heap.size)) A5 B5 C5 n m k M2:=hnr5.le (Qbe (fun b hb=>by
       obtain ⟨h1,h2⟩:=hb
       rcases h2 with h2|h2
       · exact ⟨h1,by rw [hgtd];exact h2.1,h2.2⟩
       · have:=hbl.size;have:=hX'.lt
         exact ⟨h1,by omega,by omega⟩))
      clear hgtd
      go_wp2_with fail
      refine hK.out _ _ hk6 (fun _=>?_);clear hK K hgt5 hnr5 hk5 hz5 hb5 hFF hbv hzv hnFgt;refine tz 7 59 ?_;refine tz 8 67 ?_;refine tz 9 68 ?_;obtain ⟨k0,k1,k2⟩:=hgt6.three;have fk0:=hgt6.frozen 0;have fk1:=hgt6.frozen 1;have fk2:=hgt6.frozen 2;obtain ⟨w7a,hw7⟩:∃ X,X=((w6a.setCell ⟨gt,0,none⟩ (.slice A5 n c5)).setCell ⟨gt,1,none⟩ (.slice B5 m d5)).setCell ⟨gt,2,none⟩ (.slice C5 k e5):=⟨_,rfl⟩;have hk7:Qbo (fun b=>¬FM b) wr w7a:=by rw [hw7];exact ((hk6.setNew hgtz _ _).setNew hgtz _ _).setNew hgtz _ _
      have hS7:Qbo (fun b=>b≠gt) w6a w7a:=by rw [hw7];exact (((Qbo.refl _ _).set (by simp) _ _).set (by simp) _ _).set (by simp) _ _
      have hgt7:Blk w7a gt 26 #[.slice A5 n c5,.slice B5 m d5,.slice C5 k e5]:=by rw [hw7];exact ((hgt6.set_ 0 _).set_ 1 _).set_ 2 _
      exact Kak
  · obtain rfl:i=la:=by omega
    have hM:=hal.out;have hokM:=hgr.ok
    have hoM:Qfw wr o M.ar ls:=(HOO.out.le (fun a v hc=>by
     obtain ⟨h1,h2⟩:=Qal.1 hc;rw [World.cell?_of_block (HKZ.out.1 _ h1 (Qah h2))];exact h2)).alike hM.1
    have hgs:gatesOf M.ar ls=gatesOf N.ar ls:=hM.1.gatesOf ls;have hNC2:Qca (gatesOf M.ar ls)≤1000000000:=by rw [hgs];exact Qtp HMAY.out
    have hPM:Qbc M.vs.length ls:=by rw [hM.2];exact HMAY.out.part
    have hmM:M.ar.length=m:=hnr.2.1.1;obtain ⟨xs,hxs⟩:∃ x,M.ar[s]?=some x:=⟨_,Zg (by rw [hmM];exact hsm)⟩;obtain ⟨xt,hxt⟩:∃ x,M.ar[t]?=some x:=⟨_,Zg (by rw [hmM];exact htm)⟩;obtain ⟨S2,hS2⟩:∃ S2,S2=Qca (gatesOf M.ar ls):=⟨_,rfl⟩;have HS2:=Zh hS2;have hnrW:Qbg wr A' B' C' n m k M:=hnr.le (Qbd _ _);have HALW:=Zh (all_ok wr g o M ls hgr.rd hokM hoM hPM hNC2);have HD2:=Zh (fun CB2 V cl2 (hV:Below wr.heap.size wr V) (hc:RdI V (some ⟨CB2,0,none⟩) S2 cl2) (hA:Qdh M ls cl2)=>Qjd V g o M ls (some ⟨CB2,0,none⟩) S2 S2 cl2 s t xs xt (hgr.rd.below hV) (hoM.below hV) hc hokM hPM hA ⟨Zn _,by omega⟩ hNC2 hxs hxt);have HOF:=Zh (fun V (hV:Below wr.heap.size wr V)=>Qwi A' B' C' n m k c' d' e' M V (hnrW.below hV) hokM);have HDI:=Zh (fun V NX TX cx ct (hV:Below wr.heap.size wr V) hnx htx=>Qwg A' B' C' NX TX n m k c' d' e' cx ct s t M V (hnrW.below hV) hokM hnx htx hsm htm);have HXR:=Zh hX;have HBLR:=Zh hbl;clear hbl hY hX hgr hF3 hnr hfew hal x0 x1 x2 hM hokM hoM hgs hNC2 hPM hmM hxs hxt hS2 hnrW
    go_wp2_with fail
    with_reducible refine HALW.out.mono ?_
    unfold AllR;rintro r wc ⟨CB2,cl2,rfl,_,hCl,hlen,_,hdone,hbc⟩;have HIA:=Zh (hdone.all hlen);rw [←HS2.out] at hlen ⊢;have HBC:=Zh hbc;have HCC:=Zh (show RdI wc (some ⟨CB2,0,none⟩) S2 cl2 from ⟨hlen,fun i x hx=>⟨CB2,0,rfl,by rw [hCl.cell,Yz,Yo];exact Qgt hx⟩⟩)
    clear hCl hlen hdone hbc HALW
    go_wp2_with fail
    with_reducible refine (HD2.out CB2 wc cl2 HBC.out HCC.out HIA.out).mono ?_
    rintro r wd ⟨⟨v,rfl,hv⟩,hbd⟩;have HV:=Zh hv;have HBD:=Zh (Zb HBC.out hbd);have hXd:=HXR.out.below HBD.out HXR.out.lt;obtain ⟨x0,x1,x2⟩:=hXd.three;clear hv hbd hXd HD2 HIA HCC HBC
    go_wp2_with fail
    with_reducible refine (HOF.out wd HBD.out).mono ?_
    rintro r wi ⟨NX,cx,TX,ct,rfl,hnx,htx,hbi⟩;have HBi:=Zh (Zb HBD.out hbi);have HDIi:=Zh (HDI.out wi NX TX cx ct HBi.out hnx htx);clear hnx htx hbi HDI x0 x1 x2
    go_wp2_with fail
    with_reducible refine HDIi.out.mono ?_
    rintro r wj ⟨⟨vj,rfl,hvj⟩,hbj⟩;obtain rfl:=HV.out.uniq hvj;have HBj:=Zh (Zb HBLR.out (Zb HBi.out hbj));clear hbj
    go_wp2_with fail
    go_ret
    exact ⟨Qbh (by simp),HBj.out⟩
end Go.Proofs.YtdheeddnkdhfeaaGreatDoor
namespace Go.Proofs.YtdheeddnkdhfeaaGreatDoor
open Go.ChangeShapes Go.WideShapes Go.ChangeAt Go.RowKit Go.Deep
theorem own_:ownKnob Tryz.prog.godebug=none:=by kernel_rfl
theorem Qoh:laidOutB Tryz.prog=true:=by kernel_rfl
theorem Qxi {α:Type}{p:Nat→α→Prop}:∀ (n:Nat),(∀ i,i<n→∃ a,p i a)→∃ l:List α,l.length=n∧∀ i a,l[i]?=some a→p i a
 | 0,_=>⟨[],rfl,fun i a h=>by simp at h⟩
 | n+1,h=>by
  obtain ⟨l,hl,hp⟩:=Qxi n (fun i hi=>h i (by omega));obtain ⟨a,ha⟩:=h n (by omega);refine ⟨l ++[a],by simp [hl],fun i b hb=>?_⟩
  rcases Nat.lt_or_ge i n with h1|h1
  · rw [Yc (by omega)] at hb;exact hp i b hb
  · rw [Yb (by omega),hl] at hb
    have:i=n:=by
     rcases Nat.lt_or_ge (i-n) 1 with h2|h2
     · omega
     · rw [Yd (by simpa using h2)] at hb;cases hb
    subst this;simp at hb;subst hb;exact ha
section
variable {H:Type} {enc:TypeId×Value→H} {P:Program} {w:World} {base:Nat} {spare:Nat→Bool} {held:Bool}
theorem Qel {α:Type}{t e k:Nat} (ht:P.underlying t=some (.slice e)) (hk:P.cellsOf e=k) (hk0:0<k) (Rel:List Value→α→Prop)
 (hel:∀ (fuel:Nat) (cs:List Value) (x:DataW H×List MemPlace),DataW.trod enc P w base spare held fuel e cs=some x→∃ a,Rel cs a)
 {A:Option Addr} {n c fuel:Nat} {x:DataW H×List MemPlace} (h:DataW.trod enc P w base spare held fuel t [.slice A n c]=some x) :
 ∃ l:List α,l.length=n∧n≤c∧c≤9223372036854775807∧(n=0∨∃ el sp,x.1=.slice el sp∧el.length=n) ∧
  ∀ i a,l[i]?=some a→∃ b o vs,A=some ⟨b,o,none⟩∧Rel vs a∧vs.length=k∧∀ j v,vs[j]?=some v→w.cell? ⟨b,o+i*k+j,none⟩=some v:=by
 rcases open_slice ht h with ⟨h0,_⟩|⟨a,len,cap,m,n',D,Pl,hcs,hb,hl,hm,hmm,hx,hi⟩
 · simp only [List.cons.injEq,Value.slice.injEq,and_true] at h0
   obtain ⟨rfl,rfl,rfl⟩:=h0;exact ⟨[],rfl,Zn _,by omega,.inl rfl,fun i a h=>by simp at h⟩
 · simp only [List.cons.injEq,Value.slice.injEq,and_true] at hcs
   obtain ⟨rfl,rfl,rfl⟩:=hcs;have hlm:n≤m:=by rw [hmm];split <;> omega
   obtain ⟨l,hll,hlp⟩:=Qxi (p:=fun i (y:α)=>∃ vs,Rel vs y∧vs.length=k∧∀ j v,vs[j]?=some v→w.cell? ((a.add (i*k)).add j)=some v) n (fun i hin=>by
    obtain ⟨cs',hc,ht'⟩:=hi i (by omega);rw [hk] at hc;obtain ⟨_,hlen,hat⟩:=World.cells?_some hc;obtain ⟨y,hy⟩:=hel _ _ _ ht';refine ⟨y,cs',hy,hlen,fun j v hv=>?_⟩;have hj:j<k:=by rw [←hlen];exact (Zs hv).1
    rw [hat j hj,hv])
   refine ⟨l,hll,hl,(by unfold maxLen at hm;omega),.inr ⟨_,_,by rw [hx],by simp⟩,fun i y hy=>?_⟩;obtain ⟨vs,h1,h2,h3⟩:=hlp i y hy
   have hspot:a.spot=none:=by
    have h4:=h3 0 vs[0] (Zg (by omega));have h5:=World.cell?_spot h4;unfold Addr.add at h5
    by_cases h6:i*k=0
    · simpa [h6] using h5
    · have hl0:l.length=n:=hll
      have h7:0<n:=by
       have:=(Zs hy).1;omega
      obtain ⟨y0,hy0⟩:∃ y0,l[0]?=some y0:=⟨l[0],Zg (by omega)⟩;obtain ⟨vs0,g1,g2,g3⟩:=hlp 0 y0 hy0;have g4:=World.cell?_spot (g3 0 vs0[0] (Zg (by omega)))
      simpa [Addr.add] using g4
   obtain ⟨b,o,sp⟩:=a;simp only at hspot;subst hspot;refine ⟨b,o,vs,rfl,h1,h2,fun j v hv=>?_⟩;have:=h3 j v hv;unfold Addr.add at this
   by_cases h6:i*k=0
   · by_cases h7:j=0
     · simpa [h6,h7] using this
     · simpa [h6,h7] using this
   · by_cases h7:j=0
     · simpa [h6,h7] using this
     · simpa [h6,h7] using this
theorem rel_int {k:IntKind}{e:Nat} (he:P.underlying e=some (.int k)) (fuel:Nat) (cs:List Value) (x:DataW H×List MemPlace) (h:DataW.trod enc P w base spare held fuel e cs=some x) :
 ∃ n:Int,cs=[.int k n]∧(Lit.int k n).wf=true:=by
 obtain ⟨n,h1,_,h3⟩:=DataW.trod_int he h;exact ⟨n,h1,h3⟩
theorem rel_bool {e:Nat}(he:P.underlying e=some .bool)(fuel:Nat)(cs:List Value)(x:DataW H×List MemPlace)(h:DataW.trod enc P w base spare held fuel e cs=some x) :
 ∃ n:Bool,cs=[.bool n]:=by
 obtain ⟨n,h1,_⟩:=DataW.trod_bool he h;exact ⟨n,h1⟩
theorem open_bools {t e:Nat} (ht:P.underlying t=some (.slice e)) (he:P.underlying e=some .bool) (hc:P.cellsOf e=1)
 {A:Option Addr} {n c fuel:Nat} {x:DataW H×List MemPlace} (h:DataW.trod enc P w base spare held fuel t [.slice A n c]=some x) :
 ∃ l:List Bool,RdB w A n l∧n≤c∧c≤9223372036854775807∧(n=0∨∃ el sp,x.1=.slice el sp∧el.length=n):=by
 obtain ⟨l,hl,hnc,hcm,hsz,hr⟩:=Qel ht hc (by omega) (fun cs (p:Bool)=>cs=[.bool p]) (rel_bool he) h;refine ⟨l,⟨hl,fun i p hp=>?_⟩,hnc,hcm,hsz⟩;obtain ⟨b,o,vs,rfl,rfl,_,hv⟩:=hr i p hp;exact ⟨b,o,rfl,by have:=hv 0 _ rfl;simpa using this⟩
theorem Qmf {k:IntKind}{t e:Nat} (ht:P.underlying t=some (.slice e)) (he:P.underlying e=some (.int k)) (hc:P.cellsOf e=1)
 {A:Option Addr} {n c fuel:Nat} {x:DataW H×List MemPlace} (h:DataW.trod enc P w base spare held fuel t [.slice A n c]=some x) :
 ∃ l:List Int,RdK k w A n l∧n≤c∧c≤9223372036854775807∧(n=0∨∃ el sp,x.1=.slice el sp∧el.length=n)∧∀ a∈l,(Lit.int k a).wf=true:=by
 obtain ⟨l,hl,hnc,hcm,hsz,hr⟩:=Qel ht hc (by omega) (fun cs (p:Int)=>cs=[.int k p]∧(Lit.int k p).wf=true) (rel_int he) h;refine ⟨l,⟨hl,fun i p hp=>?_⟩,hnc,hcm,hsz,fun a ha=>?_⟩
 · obtain ⟨b,o,vs,rfl,⟨rfl,_⟩,_,hv⟩:=hr i p hp
   exact ⟨b,o,rfl,by have:=hv 0 _ rfl;simpa using this⟩
 · obtain ⟨i,hi,e1⟩:=List.getElem_of_mem ha
   obtain ⟨b,o,vs,_,⟨_,h2⟩,_,_⟩:=hr i a (by rw [Zg hi,e1]);exact h2
end
end Go.Proofs.YtdheeddnkdhfeaaGreatDoor
namespace Go.Proofs.YtdheeddnkdhfeaaGreatDoor
open Go.ChangeShapes Go.WideShapes Go.ChangeAt Go.RowKit Go.Deep
theorem list_one {α:Type}:∀ {l:List α},l.length=1→∃ a,l=[a]
 | [a],_=>⟨a,rfl⟩
theorem Qgu {α:Type}:∀ {l:List α},l.length=3→∃ a b c,l=[a,b,c]
 | [a,b,c],_=>⟨a,b,c,rfl⟩
section
variable {H:Type} {enc:TypeId×Value→H} {w:World} {base:Nat} {spare:Nat→Bool} {held:Bool}
theorem Qee {t e:TypeId} (ht:Tryz.prog.underlying t=some (.slice e)) {fuel:Nat} {cs:List Value} {x:DataW H×List MemPlace} (h:DataW.trod enc Tryz.prog w base spare held fuel t cs=some x):∃ A n c,cs=[.slice A n c]:=by
 rcases open_slice ht h with ⟨h0,_⟩|⟨a,len,cap,m,n',D,Pl,hcs,_⟩
 · exact ⟨_,_,_,h0⟩
 · exact ⟨_,_,_,hcs⟩
theorem rel_row (fuel:Nat)(cs:List Value)(x:DataW H×List MemPlace)(h:DataW.trod enc Tryz.prog w base spare held fuel 61 cs=some x) :
 ∃ l:List Int,∃ A n c,cs=[.slice A n c]∧RdI w A n l∧n≤c∧c≤9223372036854775807:=by
 obtain ⟨A,n,c,rfl⟩:=Qee Tryz.underlying61 h;obtain ⟨l,h1,h2,h3,_,_⟩:=Qmf Tryz.underlying61 Tryz.underlying3 (by kernel_rfl) h;exact ⟨l,A,n,c,rfl,h1,h2,h3⟩
theorem Qxq {cs:List Value}{fuel:Nat}{x:DataW H×List MemPlace}(h:DataW.trod enc Tryz.prog w base spare held fuel 29 cs=some x) :
 ∃ (A:Option Addr) (n c:Nat) (ls:List (List Int)),cs=[.slice A n c]∧RdT w A n ls∧n≤c∧c≤9223372036854775807:=by
 obtain ⟨xs,m,_,_,hcl,hxl,hi⟩:=DataW.trod_struct Tryz.underlying29 h;have hxl':xs.length=1:=hxl;have a0:DataW.trod enc Tryz.prog w base spare held m 27 ((cs.drop 0).take (Tryz.prog.cellsOf 27))=xs[0]?:=hi 0 _ rfl;rw [Zg (by omega)] at a0;obtain ⟨A,n,c,e0⟩:=Qee Tryz.underlying27 a0;rw [e0] at a0;obtain ⟨l,hl,hnc,hcm,_,hr⟩:=Qel Tryz.underlying27 (k:=1) (by kernel_rfl) (by omega) (fun cs (l:List Int)=>∃ A n c,cs=[.slice A n c]∧RdI w A n l∧n≤c∧c≤9223372036854775807) rel_row a0;rw [show Tryz.prog.cellsOf 29=1 by kernel_rfl] at hcl
 rw [show Tryz.prog.cellsOf 27=1 by kernel_rfl] at e0
 clear a0 hi h;obtain ⟨c0,rfl⟩:=list_one hcl;simp at e0;refine ⟨A,n,c,l,by simp [e0],⟨hl,fun i p hp=>?_⟩,hnc,hcm⟩;obtain ⟨b,o,vs,e,⟨A',n',c',e2,h1,h2,h3⟩,_,hv⟩:=hr i p hp;subst e2;exact ⟨b,o,A',n',c',e,by have:=hv 0 _ rfl;simpa using this,h1,h2,h3⟩
theorem rel_vert (fuel:Nat)(cs:List Value)(x:DataW H×List MemPlace)(h:DataW.trod enc Tryz.prog w base spare held fuel 124 cs=some x):∃ p:Tri,cs=[.int .i64 p.1,.int .i64 p.2.1,.int .i64 p.2.2]:=by
 obtain ⟨xs,m,_,_,hcl,hxl,hi⟩:=DataW.trod_struct Tryz.underlying124 h;have hxl':xs.length=3:=hxl;have a0:DataW.trod enc Tryz.prog w base spare held m 3 ((cs.drop 0).take (Tryz.prog.cellsOf 3))=xs[0]?:=hi 0 _ rfl;have a1:DataW.trod enc Tryz.prog w base spare held m 3 ((cs.drop 1).take (Tryz.prog.cellsOf 3))=xs[1]?:=hi 1 _ rfl;have a2:DataW.trod enc Tryz.prog w base spare held m 3 ((cs.drop 2).take (Tryz.prog.cellsOf 3))=xs[2]?:=hi 2 _ rfl;rw [Zg (by omega)] at a0 a1 a2;obtain ⟨n0,e0,_⟩:=DataW.trod_int Tryz.underlying3 a0;obtain ⟨n1,e1,_⟩:=DataW.trod_int Tryz.underlying3 a1;obtain ⟨n2,e2,_⟩:=DataW.trod_int Tryz.underlying3 a2;rw [show Tryz.prog.cellsOf 124=3 by kernel_rfl] at hcl
 rw [show Tryz.prog.cellsOf 3=1 by kernel_rfl] at e0 e1 e2
 exact Kcs
theorem rel_arc (fuel:Nat)(cs:List Value)(x:DataW H×List MemPlace)(h:DataW.trod enc Tryz.prog w base spare held fuel 119 cs=some x):∃ p:Tri,cs=[.int .i64 p.1,.int .i64 p.2.1,.int .i64 p.2.2]:=by
 obtain ⟨xs,m,_,_,hcl,hxl,hi⟩:=DataW.trod_struct Tryz.underlying119 h;have hxl':xs.length=3:=hxl;have a0:DataW.trod enc Tryz.prog w base spare held m 3 ((cs.drop 0).take (Tryz.prog.cellsOf 3))=xs[0]?:=hi 0 _ rfl;have a1:DataW.trod enc Tryz.prog w base spare held m 3 ((cs.drop 1).take (Tryz.prog.cellsOf 3))=xs[1]?:=hi 1 _ rfl;have a2:DataW.trod enc Tryz.prog w base spare held m 2 ((cs.drop 2).take (Tryz.prog.cellsOf 2))=xs[2]?:=hi 2 _ rfl;rw [Zg (by omega)] at a0 a1 a2;obtain ⟨n0,e0,_⟩:=DataW.trod_int Tryz.underlying3 a0;obtain ⟨n1,e1,_⟩:=DataW.trod_int Tryz.underlying3 a1;obtain ⟨n2,e2,_⟩:=DataW.trod_int Tryz.underlying2 a2;rw [show Tryz.prog.cellsOf 119=3 by kernel_rfl] at hcl
 rw [show Tryz.prog.cellsOf 3=1 by kernel_rfl] at e0 e1
 rw [show Tryz.prog.cellsOf 2=1 by kernel_rfl] at e2
 exact Kcs
def TabCs (w:World)(cs:List Value)(t:Qcv):Prop:=∃ (A:Option Addr) (n c:Nat),cs=[.int .i64 t.ins,.int .i64 t.outs,.slice A n c]∧RdI w A n t.costs∧n≤c∧c≤9223372036854775807
theorem rel_tab (fuel:Nat)(cs:List Value)(x:DataW H×List MemPlace)(h:DataW.trod enc Tryz.prog w base spare held fuel 122 cs=some x):∃ t:Qcv,TabCs w cs t:=by
 obtain ⟨xs,m,_,_,hcl,hxl,hi⟩:=DataW.trod_struct Tryz.underlying122 h;have hxl':xs.length=3:=hxl;have a0:DataW.trod enc Tryz.prog w base spare held m 3 ((cs.drop 0).take (Tryz.prog.cellsOf 3))=xs[0]?:=hi 0 _ rfl;have a1:DataW.trod enc Tryz.prog w base spare held m 3 ((cs.drop 1).take (Tryz.prog.cellsOf 3))=xs[1]?:=hi 1 _ rfl;have a2:DataW.trod enc Tryz.prog w base spare held m 36 ((cs.drop 2).take (Tryz.prog.cellsOf 36))=xs[2]?:=hi 2 _ rfl;rw [Zg (by omega)] at a0 a1 a2;obtain ⟨n0,e0,_⟩:=DataW.trod_int Tryz.underlying3 a0;obtain ⟨n1,e1,_⟩:=DataW.trod_int Tryz.underlying3 a1;obtain ⟨A,n,c,e2⟩:=Qee Tryz.underlying36 a2;rw [e2] at a2;obtain ⟨l,h1,h2,h3,_,_⟩:=Qmf Tryz.underlying36 Tryz.underlying2 (by kernel_rfl) a2;rw [show Tryz.prog.cellsOf 122=3 by kernel_rfl] at hcl
 rw [show Tryz.prog.cellsOf 3=1 by kernel_rfl] at e0 e1
 rw [show Tryz.prog.cellsOf 36=1 by kernel_rfl] at e2
 clear a0 a1 a2 hi h;obtain ⟨c0,c1,c2,rfl⟩:=Qgu hcl;simp at e0 e1 e2;exact ⟨⟨n0,n1,l⟩,A,n,c,by simp [e0,e1,e2],h1,h2,h3⟩
theorem open_net {cs:List Value}{fuel:Nat}{x:DataW H×List MemPlace}(h:DataW.trod enc Tryz.prog w base spare held fuel 26 cs=some x) :
 ∃ (A B C:Option Addr) (n m k c d e:Nat) (N:Qak),cs=[.slice A n c,.slice B m d,.slice C k e]∧Qbg w A B C n m k N∧k≤9223372036854775807:=by
 obtain ⟨xs,f,_,_,hcl,hxl,hi⟩:=DataW.trod_struct Tryz.underlying26 h;have hxl':xs.length=3:=hxl;have a0:DataW.trod enc Tryz.prog w base spare held f 22 ((cs.drop 0).take (Tryz.prog.cellsOf 22))=xs[0]?:=hi 0 _ rfl;have a1:DataW.trod enc Tryz.prog w base spare held f 23 ((cs.drop 1).take (Tryz.prog.cellsOf 23))=xs[1]?:=hi 1 _ rfl;have a2:DataW.trod enc Tryz.prog w base spare held f 24 ((cs.drop 2).take (Tryz.prog.cellsOf 24))=xs[2]?:=hi 2 _ rfl;rw [Zg (by omega)] at a0 a1 a2;obtain ⟨A,n,c,e0⟩:=Qee Tryz.underlying22 a0;obtain ⟨B,m,d,e1⟩:=Qee Tryz.underlying23 a1;obtain ⟨C,k,e,e2⟩:=Qee Tryz.underlying24 a2;rw [e0] at a0;rw [e1] at a1;rw [e2] at a2;obtain ⟨vs,hl0,_,_,_,hr0⟩:=Qel Tryz.underlying22 (k:=3) (by kernel_rfl) (by omega) (fun cs (p:Tri)=>cs=[.int .i64 p.1,.int .i64 p.2.1,.int .i64 p.2.2]) rel_vert a0;obtain ⟨ar,hl1,_,_,_,hr1⟩:=Qel Tryz.underlying23 (k:=3) (by kernel_rfl) (by omega) (fun cs (p:Tri)=>cs=[.int .i64 p.1,.int .i64 p.2.1,.int .i64 p.2.2]) rel_arc a1;obtain ⟨ts,hl2,hkc,hcm,_,hr2⟩:=Qel Tryz.underlying24 (k:=3) (by kernel_rfl) (by omega) (TabCs w) rel_tab a2;rw [show Tryz.prog.cellsOf 26=3 by kernel_rfl] at hcl
 rw [show Tryz.prog.cellsOf 22=1 by kernel_rfl] at e0
 rw [show Tryz.prog.cellsOf 23=1 by kernel_rfl] at e1
 rw [show Tryz.prog.cellsOf 24=1 by kernel_rfl] at e2
 clear a0 a1 a2 hi h;obtain ⟨c0,c1,c2,rfl⟩:=Qgu hcl;simp at e0 e1 e2;refine ⟨A,B,C,n,m,k,c,d,e,⟨vs,ar,ts⟩,by simp [e0,e1,e2],⟨⟨hl0,fun i p hp=>?_⟩,⟨hl1,fun i p hp=>?_⟩,⟨hl2,fun i p hp=>?_⟩⟩,by omega⟩
 · obtain ⟨b,o,us,e5,rfl,_,hv⟩:=hr0 i p hp
   exact ⟨b,o,e5,by have:=hv 0 _ rfl;simpa using this,hv 1 _ rfl,hv 2 _ rfl⟩
 · obtain ⟨b,o,us,e5,rfl,_,hv⟩:=hr1 i p hp
   exact ⟨b,o,e5,by have:=hv 0 _ rfl;simpa using this,hv 1 _ rfl,hv 2 _ rfl⟩
 · obtain ⟨b,o,us,e5,⟨A',n',c',rfl,h1,h2,h3⟩,_,hv⟩:=hr2 i p hp
   exact ⟨b,o,e5,by have:=hv 0 _ rfl;simpa using this,hv 1 _ rfl,A',n',c',hv 2 _ rfl,h1,h2,h3⟩
end
end Go.Proofs.YtdheeddnkdhfeaaGreatDoor
namespace Go.Proofs.YtdheeddnkdhfeaaGreatDoor
open Go.ChangeShapes Go.WideShapes Go.ChangeAt Go.RowKit Go.Deep
theorem et_ : Tryz.prog.globalNamed "errors.errorType" = some 0 := by kernel_rfl
theorem rt_ : (Tryz.prog.cutTypes.find? (·.1 == "internal/reflectlite.rtype")).map (·.2) = some 281 := by kernel_rfl
theorem oneRow_:((List.range 363).filter fun t=>Tryz.prog.rowNamed t [101,114,114,111,114])=[44]:=by kernel_rfl
theorem size_:Tryz.prog.types.size=363:=by kernel_rfl
theorem Qly {W : World} (h : laidMetH Tryz.prog [("errors.errorType", Rows.laid_errors_errorType)] W) : W.cell? ⟨0, 0, none⟩ = some Qjb := by
 have h' : laidMet Tryz.prog [] W ∧ handlesMet Tryz.prog [("errors.errorType", Rows.laid_errors_errorType)] W := h
 obtain ⟨name,u,ty,e1,e2,e3,e4,e5⟩:=h'.2 _ (List.mem_singleton.2 rfl);have en:name=[101,114,114,111,114]:=(Yv e1).symm;subst en;obtain rfl:=Yv (rt_.symm.trans e2);have hm:ty∈(List.range 363).filter fun t=>Tryz.prog.rowNamed t [101,114,114,111,114]:=List.mem_filter.2 ⟨List.mem_range.2 (by rw [←size_];exact e3),e4⟩
 rw [oneRow_] at hm;obtain rfl:=List.mem_singleton.1 hm;have hh:typeHandle Tryz.prog 44=.pointer (some ⟨1,44,none⟩):=by kernel_rfl
 rw [hh] at e5;unfold Qjb
 simpa using World.var?_cell et_ e5 0
noncomputable def Qpe (os:Os):World :=
 let w0:=World.holding Tryz.prog os ⟨#[],#[],[]⟩
 { w0 with heap:=w0.heap.modify 0 fun
  | .cells _ t frozen=>.cells #[Qjb] t frozen
  | o=>o }
theorem Qoo (os : Os) (args : Array Value) : laidMetH Tryz.prog [("errors.errorType", Rows.laid_errors_errorType)] ((Qpe os).forCall (fun _ _ => 0) ⟨#[], args, []⟩).memory :=
 laidMetH_of_parts (laidMet_nil _ _) (by kernel_rfl)
end Go.Proofs.YtdheeddnkdhfeaaGreatDoor
namespace Go.Proofs.YtdheeddnkdhfeaaGreatDoor
open Go.ChangeShapes Go.WideShapes Go.ChangeAt Go.RowKit Go.Deep
namespace AskChangedDone
theorem Qzh {α:Type}:∀ {l:List α},l.length=5→∃ a b c d e,l=[a,b,c,d,e]
 | [a,b,c,d,e],_=>⟨a,b,c,d,e,rfl⟩
section
variable {H:Type} {enc:TypeId×Value→H} {w:World} {base:Nat} {spare:Nat→Bool} {held:Bool}
theorem rel_act (fuel:Nat)(cs:List Value)(x:DataW H×List MemPlace)(h:DataW.trod enc Tryz.prog w base spare held fuel 42 cs=some x):∃ p:Quin,cs=[.int .i64 p.1,.int .i64 p.2.1,.int .i64 p.2.2.1,.int .i64 p.2.2.2.1,.int .i64 p.2.2.2.2]:=by
 obtain ⟨xs,m,_,_,hcl,hxl,hi⟩:=DataW.trod_struct Tryz.underlying42 h;have hxl':xs.length=5:=hxl;have a0:DataW.trod enc Tryz.prog w base spare held m 3 ((cs.drop 0).take (Tryz.prog.cellsOf 3))=xs[0]?:=hi 0 _ rfl;have a1:DataW.trod enc Tryz.prog w base spare held m 3 ((cs.drop 1).take (Tryz.prog.cellsOf 3))=xs[1]?:=hi 1 _ rfl;have a2:DataW.trod enc Tryz.prog w base spare held m 3 ((cs.drop 2).take (Tryz.prog.cellsOf 3))=xs[2]?:=hi 2 _ rfl;have a3:DataW.trod enc Tryz.prog w base spare held m 3 ((cs.drop 3).take (Tryz.prog.cellsOf 3))=xs[3]?:=hi 3 _ rfl;have a4:DataW.trod enc Tryz.prog w base spare held m 2 ((cs.drop 4).take (Tryz.prog.cellsOf 2))=xs[4]?:=hi 4 _ rfl;rw [Zg (by omega)] at a0 a1 a2 a3 a4;obtain ⟨n0,e0,_⟩:=DataW.trod_int Tryz.underlying3 a0;obtain ⟨n1,e1,_⟩:=DataW.trod_int Tryz.underlying3 a1;obtain ⟨n2,e2,_⟩:=DataW.trod_int Tryz.underlying3 a2;obtain ⟨n3,e3,_⟩:=DataW.trod_int Tryz.underlying3 a3;obtain ⟨n4,e4,_⟩:=DataW.trod_int Tryz.underlying2 a4;rw [show Tryz.prog.cellsOf 42=5 by kernel_rfl] at hcl
 rw [show Tryz.prog.cellsOf 3=1 by kernel_rfl] at e0 e1 e2 e3
 rw [show Tryz.prog.cellsOf 2=1 by kernel_rfl] at e4
 clear a0 a1 a2 a3 a4 hi h;obtain ⟨c0,c1,c2,c3,c4,rfl⟩:=Qzh hcl;simp at e0 e1 e2 e3 e4;exact ⟨(n0,n1,n2,n3,n4),by simp [e0,e1,e2,e3,e4]⟩
theorem Qxz {A:Option Addr}{n c fuel:Nat}{x:DataW H×List MemPlace} (h:DataW.trod enc Tryz.prog w base spare held fuel 30 [.slice A n c]=some x) :
 ∃ l:List Quin,RdA w A n l∧n≤9223372036854775807:=by
 obtain ⟨l,hl,hnc,hcm,_,hr⟩:=Qel Tryz.underlying30 (k:=5) (by kernel_rfl) (by omega) (fun cs (p:Quin)=>cs=[.int .i64 p.1,.int .i64 p.2.1,.int .i64 p.2.2.1,.int .i64 p.2.2.2.1,.int .i64 p.2.2.2.2]) rel_act h;refine ⟨l,⟨hl,fun i p hp=>?_⟩,by omega⟩;obtain ⟨b,o,us,e5,rfl,_,hv⟩:=hr i p hp;exact ⟨b,o,e5,by have:=hv 0 _ rfl;simpa using this,hv 1 _ rfl,hv 2 _ rfl,hv 3 _ rfl,hv 4 _ rfl⟩
end
set_option maxRecDepth 100000 in
theorem lifted (os:Os)(started:os.Started)(H:Type)(enc:TypeId×Value→H) :
 ReturnsInHanded {} Tryz.checked os 3 .any (fun w args => (Rows.askChangedSpec.pre enc Tryz.prog Tryz.f3 [] false w args ∧ laidMetH Tryz.prog [("errors.errorType", Rows.laid_errors_errorType)] w) ∧ sizedMet enc Tryz.prog Tryz.f3 (OpenSpec.ofChange Rows.askChangedSpec) false w args)
  (Rows.askChangedSpec.post enc Tryz.prog Tryz.f3 false true false false):=by
 refine returnsInHanded_of_change_and (C := Tryz.checked) (X := fun w _ => laidMetH Tryz.prog [("errors.errorType", Rows.laid_errors_errorType)] w) (fun _ _ _ hh h => h.of_heap hh) own_ started (by kernel_rfl) Tryz.func3
  (ChangeSpec.witness_at (enc := enc) (C := Tryz.checked) (os := os) (X := fun w _ => laidMetH Tryz.prog [("errors.errorType", Rows.laid_errors_errorType)] w) false (Qpe os) #[.agg #[.slice none 0 0, .slice none 0 0, .slice none 0 0], .agg #[.slice none 0 0], .slice none 0 0, .int .i64 0, .int .i64 0] 8 rfl (by kernel_rfl) (by kernel_rfl) (by kernel_rfl) (by kernel_rfl) (by kernel_rfl) (Qoo os _)) ?_
 intro W base args ds gs before hval0 hW _ hsz0 hL _;clear hsz0;have hval:∀ (j:Nat) t v,Tryz.f3.params[j]?=some t→args[j]?=some v→Value.okWide Tryz.prog W .any base t v:=hval0;have hW':=hW;obtain ⟨p,q,hA0,hV,rfl,hfz,hnd⟩:=hW;have hA:DataW.TrodAll enc Tryz.prog W 0 (fun _=>true) true Tryz.f3.params.toList args.toList ds p:=hA0;rw [Tryz.params3] at hA hval;obtain ⟨v0,vs0,d0,ds0,p0,q0,hargs,rfl,rfl,h0,r0⟩:=trodAll_cons hA;obtain ⟨v1,vs1,d1,ds1,p1,q1,rfl,rfl,rfl,h1,r1⟩:=trodAll_cons r0;obtain ⟨v2,vs2,d2,ds2,p2,q2,rfl,rfl,rfl,h2,r2⟩:=trodAll_cons r1;obtain ⟨v3,vs3,d3,ds3,p3,q3,rfl,rfl,rfl,h3,r3⟩:=trodAll_cons r2;obtain ⟨v4,vs4,d4,ds4,p4,q4,rfl,rfl,rfl,h4,r4⟩:=trodAll_cons r3;obtain ⟨rfl,rfl,rfl⟩:=trodAll_nil r4;obtain rfl:args=#[v0,v1,v2,v3,v4]:=by cases args;simp_all
 obtain ⟨rfl,rfl⟩:=trodVars_none hV;obtain ⟨cs0,rfl,_⟩:=okWide_struct Tryz.underlying26 (hval 0 26 v0 rfl rfl);have k0:=h0;have lt0:∀ x∈p0,x.block<W.heap.size:=by obtain ⟨m,hm⟩:=k0;exact DataW.trod_lt m _ _ _ hm
 obtain ⟨A,B,C,n,m,k,c,d,e,N,hcs0,hnet,hk⟩:∃ (A B C:Option Addr) (n m k c d e:Nat) (N:Qak),cs0=#[.slice A n c,.slice B m d,.slice C k e]∧Qbg W A B C n m k N∧k≤9223372036854775807:=by
  obtain ⟨fuel,hf⟩:=h0;obtain ⟨A,B,C,n,m,k,c,d,e,N,e1,e2,e3⟩:=open_net hf;exact ⟨A,B,C,n,m,k,c,d,e,N,Array.toList_inj.1 e1,e2,e3⟩
 subst hcs0;obtain ⟨cs1,rfl,_⟩:=okWide_struct Tryz.underlying29 (hval 1 29 v1 rfl rfl);have k1:=h1;have lt1:∀ x∈p1,x.block<W.heap.size:=by obtain ⟨m,hm⟩:=k1;exact DataW.trod_lt m _ _ _ hm
 obtain ⟨Q,L,cq,ls,hcs1,hpart,hLc⟩:∃ (Q:Option Addr) (L cq:Nat) (ls:List (List Int)),cs1=#[.slice Q L cq]∧RdT W Q L ls∧L≤9223372036854775807:=by
  obtain ⟨fuel,hf⟩:=h1;obtain ⟨Q,L,cq,ls,e1,e2,e3,e4⟩:=Qxq hf;exact ⟨Q,L,cq,ls,Array.toList_inj.1 e1,e2,by omega⟩
 subst hcs1;obtain ⟨a2,len2,cap2,rfl⟩:=okWide_slice Tryz.underlying30 (hval 2 30 v2 rfl rfl);have k2:=h2;have lt2:∀ x∈p2,x.block<W.heap.size:=by obtain ⟨m,hm⟩:=k2;exact DataW.trod_lt m _ _ _ hm
 obtain ⟨ac,hac,hlac⟩:∃ ac:List Quin,RdA W a2 len2 ac∧len2≤9223372036854775807:=by
  obtain ⟨fuel,hf⟩:=h2;exact Qxz hf
 obtain ⟨a3,rfl,rfl,rfl,w3⟩:=open_int Tryz.underlying3 (hval 3 3 v3 rfl rfl) h3;obtain ⟨a4,rfl,rfl,rfl,w4⟩:=open_int Tryz.underlying3 (hval 4 3 v4 rfl rfl) h4;clear hA0 hval0;have hg:=Qly hL;refine (Qlb A B C Q n m k c d e L cq N ls a2 len2 cap2 ac a3 a4 W hnet hk hpart hLc hac hlac hg).mono fun e W' ⟨he,bel⟩=>?_
 subst he;exact ⟨_,rfl,_,_,_,[],_,[],hW',trodAll_mk1 (shut_bool Tryz.underlying4 _),(trodAll_cons_mk (Below.trod Qoh (by kernel_rfl) (of_decide_eq_true (by kernel_rfl)) k0 bel lt0) (trodAll_cons_mk (Below.trod Qoh (by kernel_rfl) (of_decide_eq_true (by kernel_rfl)) k1 bel lt1) (trodAll_cons_mk (Below.trod Qoh (by kernel_rfl) (of_decide_eq_true (by kernel_rfl)) k2 bel lt2) (trodAll_cons_mk (shut_int Tryz.underlying3 w3) (trodAll_cons_mk (shut_int Tryz.underlying3 w4) trodAll_mk0))))),rfl,bel.frame _,fun h=>by cases h⟩
theorem jf0:Rows.askChangedRow.wf (OpenSpec.ofChange Rows.askChangedSpec)=true:=by kernel_rfl
theorem jf1:laidOutB Tryz.prog=true:=by kernel_rfl
theorem jf2:mapsRowed Tryz.prog=true:=by kernel_rfl
theorem jf3:Tryz.f3.params.all (Tryz.prog.readableRec ·)=true:=by kernel_rfl
theorem jf4:namedTie Tryz.prog Rows.askChangedRow.named Rows.askChangedSpec.vars=true:=by kernel_rfl
theorem jf5:(Rows.askChangedRow.stops == [])=true:=by kernel_rfl
theorem jf6:(Tryz.prog.stops == [])=true:=by kernel_rfl
theorem jf7:(Rows.askChangedRow.knobs == [])=true:=by kernel_rfl
theorem jf8:(Tryz.prog.stopKnobs == [])=true:=by kernel_rfl
theorem jf9:(Rows.askChangedRow.inPlace == Tryz.prog.inPlace 3)=true:=by kernel_rfl
theorem jf10:(Rows.askChangedRow.unfollowed == Tryz.prog.unfollowed 3)=true:=by kernel_rfl
theorem jf11:(Rows.askChangedRow.recurses == Tryz.prog.recurses 3)=true:=by kernel_rfl
theorem jf12:(Rows.askChangedRow.named == Tryz.prog.varsNamed 3)=true:=by kernel_rfl
theorem jf13:(Rows.askChangedRow.maps == (Tryz.f3.params.toList ++Rows.askChangedSpec.plain.varTypes Tryz.prog).any (Tryz.prog.mapsRec ·))=true:=by kernel_rfl
theorem jf14:(Rows.askChangedRow.ifaces == (Tryz.f3.params.toList ++Rows.askChangedSpec.plain.varTypes Tryz.prog).any (Tryz.prog.ifacesRec ·))=true:=by kernel_rfl
theorem jf15:(Rows.askChangedRow.mapsOut == Tryz.prog.mapsAmong Tryz.f3.resultTypes.toList)=true:=by kernel_rfl
theorem jf16:(Rows.askChangedRow.loops == (Tryz.f3.params.toList ++Rows.askChangedSpec.plain.varTypes Tryz.prog).any (Tryz.prog.loopsFrom ·))=true:=by kernel_rfl
theorem jf17:(Rows.askChangedRow.wideKeys == (Tryz.f3.params.toList ++Rows.askChangedSpec.plain.varTypes Tryz.prog ++Tryz.f3.resultTypes.toList).any (Tryz.prog.wideKeysFrom ·))=true:=by kernel_rfl
theorem jf18:Rows.askChangedSpec.vars.all (Tryz.prog.varReadable ·)=true:=by kernel_rfl
theorem jf19:Tryz.f3.resultTypes.all (fun t=>Tryz.prog.readableRec t && decide (t<Tryz.prog.types.size))=true:=by kernel_rfl
theorem jf20:(Rows.askChangedRow.ifacesOut == Tryz.f3.resultTypes.toList.any (Tryz.prog.ifacesRec ·))=true:=by kernel_rfl
theorem jf21:(Rows.askChangedRow.loopsOut == Tryz.f3.resultTypes.toList.any (Tryz.prog.loopsFrom ·))=true:=by kernel_rfl
theorem jf22:(Rows.askChangedRow.plainKeys == Tryz.prog.plainKeys)=true:=by kernel_rfl
theorem jf23:Rows.askChangedRow.shortTexts.isNone=true:=by kernel_rfl
theorem jf24:Tryz.prog.stopsHeard=true:=by kernel_rfl
theorem jf25:Tryz.prog.mayEnter=true:=by kernel_rfl
theorem jf26:(Rows.askChangedRow.lifted == Tryz.prog.liftsFinal)=true:=by kernel_rfl
theorem jf27:(Tryz.prog.make == some Rows.askChangedRow.make)=true:=by kernel_rfl
theorem jf28:(Rows.askChangedRow.kinds == (if Rows.askChangedRow.domain.isEmpty then [] else Tryz.f3.params.toList.map fun t=>match Tryz.prog.underlying t with|some (.int k)=>some k|_=>none))=true:=by kernel_rfl
theorem jf29:(Rows.askChangedRow.pinned == Rows.askChangedRow.pinnedBy)=true:=by kernel_rfl
theorem jf30:(Rows.askChangedRow.veiled == (Tryz.f3.params.toList ++Rows.askChangedSpec.plain.varTypes Tryz.prog ++Tryz.f3.resultTypes.toList).any (Tryz.prog.veiledRec ·))=true:=by kernel_rfl
theorem jf31:Rows.askChangedRow.veiledFits Tryz.prog Tryz.f3.params.toList (Tryz.f3.params.toList ++Rows.askChangedSpec.plain.varTypes Tryz.prog ++Tryz.f3.resultTypes.toList)=true:=by kernel_rfl
set_option maxRecDepth 100000 in
theorem closed:joinedFacts Tryz.prog 3 Tryz.f3 Rows.askChangedSpec Rows.askChangedRow=true:=by
 simp only [joinedFacts,Bool.and_eq_true];exact ⟨⟨⟨⟨⟨⟨⟨⟨⟨⟨⟨⟨⟨⟨⟨⟨⟨⟨⟨⟨⟨⟨⟨⟨⟨⟨⟨⟨⟨⟨⟨jf0,jf1⟩,jf2⟩,jf3⟩,jf4⟩,jf5⟩,jf6⟩,jf7⟩,jf8⟩,jf9⟩,jf10⟩,jf11⟩,jf12⟩,jf13⟩,jf14⟩,jf15⟩,jf16⟩,jf17⟩,jf18⟩,jf19⟩,jf20⟩,jf21⟩,jf22⟩,jf23⟩,jf24⟩,jf25⟩,jf26⟩,jf27⟩,jf28⟩,jf29⟩,jf30⟩,jf31⟩
theorem named : Tryz.prog.funcNamed "roundsman/roundsmanlaw21.AskChanged" = some 3 := by kernel_rfl
theorem inst:Tryz.f3.isInstance Tryz.prog Rows.askChangedRow.origin Rows.askChangedRow.targs:=of_decide_eq_true (by kernel_rfl)
theorem wrap:Tryz.f3.isWrapper Tryz.prog Rows.askChangedRow.wrapper Rows.askChangedRow.mainSum:=by unfold Func.isWrapper;rw [if_neg (of_decide_eq_false (by kernel_rfl))];exact ⟨rfl,rfl⟩
theorem over:Rows.AskChangedSaid :=
 OpenClaim.holds_of_wide 3 Tryz.f3 rfl rfl rfl rfl rfl rfl rfl ⟨rfl,rfl,rfl,rfl,rfl⟩ rfl rfl rfl rfl rfl named Tryz.func3 closed inst wrap
  (fun os started H enc _=>lifted os started H enc)
theorem byText:Rows.askChangedRow.wfByText (OpenSpec.ofChange Rows.askChangedSpec)=true:=by kernel_rfl
theorem mainIs : Tryz.prog.mainIs = some (((true, "e050398fe6459b335d862d199e00ee26368d24a03f5a06a9ac40ea2e9df76a20") : Bool × String).1, ((true, "e050398fe6459b335d862d199e00ee26368d24a03f5a06a9ac40ea2e9df76a20") : Bool × String).2.toList) := by kernel_rfl
theorem looksL:true=Tryz.prog.looks []:=by kernel_rfl
theorem goes:false=Rows.askChangedRow.goesBy Tryz.prog:=by kernel_rfl
theorem proved:Rows.AskChangedCardSaid :=
 Claim7.holds_tied_plain_at .later [] [.handle] true (true, "e050398fe6459b335d862d199e00ee26368d24a03f5a06a9ac40ea2e9df76a20") true
  over (fun _ h=>by cases h) byText (fun _ h=>by cases h) askChanged_row_tie rfl ⟨rfl,rfl⟩ mainIs rfl
  (fun f fn hf hfn=>by
   obtain rfl:f=3:=Yv (named.symm.trans hf) |>.symm
   obtain rfl:fn=Tryz.f3:=(Yv (Tryz.func3.symm.trans hfn)).symm
   exact ⟨looksL,fun j t ht=>by
    rw [Tryz.params3] at ht
    rcases j with _|_|_|_|_|j
    · obtain rfl:t=26:=by simpa using ht.symm
      exact (show Tryz.prog.wantsStandIn 26=false by kernel_rfl)
    · obtain rfl:t=29:=by simpa using ht.symm
      exact (show Tryz.prog.wantsStandIn 29=false by kernel_rfl)
    · obtain rfl:t=30:=by simpa using ht.symm
      exact (show Tryz.prog.wantsStandIn 30=false by kernel_rfl)
    · obtain rfl:t=3:=by simpa using ht.symm
      exact (show Tryz.prog.wantsStandIn 3=false by kernel_rfl)
    · obtain rfl:t=3:=by simpa using ht.symm
      exact (show Tryz.prog.wantsStandIn 3=false by kernel_rfl)
    · simp at ht⟩)
  goes
#print axioms proved
end AskChangedDone
end Go.Proofs.YtdheeddnkdhfeaaGreatDoor
