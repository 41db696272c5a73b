/- Parts of the proof: Fx, AsJ, TaC, Pe, Sf. -/
import Derived.Test.YteaoiabikjnkeaaGreatDoorR1
import Derived.Test.YteaoiabikjnkeaaGreatDoorR3
import Derived.Test.YteaoiabikjnkeaaGreatDoorR16
import Derived.Test.YteaoiabikjnkeaaGreatDoorR26
import Derived.Test.YteaoiabikjnkeaaGreatDoorR30
import Derived.Test.YteaoiabikjnkeaaGreatDoorR34
namespace Go.Proofs.YteaoiabikjnkeaaGreatDoor
open Go.RowKit Go.Proofs.Tryz
theorem RdW.keepB {w w':World}{A:Option Addr}{n:Nat} {l:List (ByteArray×Int)} (h:RdW w A n l) (hk:∀ b,Qab A=some b→w'.heap[b]?=w.heap[b]?):RdW w' A n l :=
 ⟨h.1,fun i x hx=>by
  obtain ⟨b,o,e,h1,h2⟩:=h.2 i x hx;have hb:=hk b (by rw [e];rfl);exact ⟨b,o,e,Qdh hb h1,Qdh hb h2⟩⟩
theorem RdW.setFar {W:World}{A:Option Addr}{n:Nat} {l:List (ByteArray×Int)} (h:RdW W A n l) (g i:Nat) (v:Value) (hne:∀ b,Qab A=some b→b≠g∧b<W.heap.size):RdW (W.setCell ⟨g,i,none⟩ v) A n l :=
 h.keepB (fun b e=>(Qbf.set W g i v (G:=fun b=>b≠g) (fun h=>h rfl)) b (hne b e).1 (hne b e).2)
theorem Qmp (s:ByteArray)(k c:Int)(w:World):Calls prog 50 #[.string s,.int .i64 k,.int .i64 c] w fun e w'=>∃ A n m,e=.returned (.agg #[.slice A n m,.int .i64 c])∧RdW w' A n [(s,k)]∧(∀ b,Qab A=some b→w.heap.size≤b∧b<w'.heap.size)∧n≤1000000∧Below w.heap.size w w':=by
 go_enter func50,ntmps50
 go_wp2
 refine bodyPost_ret (v:=.agg #[.slice (some ⟨w.heap.size+1,0,none⟩) 1 1,.int .i64 c]) (by simp [results,results50,go_sem]) rfl ?_;refine ⟨_,1,1,rfl,⟨rfl,fun i x hx=>?_⟩,fun b e=>?_,by omega,Qah⟩
 · match i,hx with
   | 0,hx=>cases hx;exact ⟨_,_,rfl,by simp,by simp⟩
   | i+1,hx=>simp at hx
 · have e:w.heap.size+1=b:=Option.some.inj e
   subst e;exact ⟨by omega,by simp⟩
theorem Qqn (A B C:Option Addr)(n m k c d e:Nat)(a:Int)(w:World) (h1:¬(0≤a∧a<m)) :
 Calls prog 40 #[.agg #[.slice A n c,.slice B m d,.slice C k e],.int .i64 a] w fun r w'=>r=.returned (.bool false)∧Below w.heap.size w w':=by
 by_cases h0:0≤a
 · have h2:¬a<m:=by omega
   clear h1
   go_enter func40,ntmps40
   go_wp2
   go_ret
   exact ⟨Qay (by first|(simp;done)|(simp;omega)),Qah⟩
 · clear h1
   go_enter func40,ntmps40
   go_wp2
   go_ret
   exact ⟨Qay (by first|(simp;done)|(simp;omega)),Qah⟩
attribute [local go_sem ↓] Go.wp_at_zero Go.wp_at_succ
def Qhk (w:World) (b:Option (ByteArray×Int×Int)) (e:Ending) (w':World):Prop:=(match b with|none=>e=.returned (.agg #[.slice none 0 0,.int .i64 0])|some (p,k,c)=>∃ A4 n4 m4,e=.returned (.agg #[.slice A4 n4 m4,.int .i64 c])∧RdW w' A4 n4 [(p,k)]∧n4≤1000000)∧Below w.heap.size w w'
set_option maxHeartbeats 4000000 in
theorem Qlb (A B C E TA:Option Addr)(n m k c d e NC S ce nt ct:Nat)(xA xB xC xQ xG:Value)(s:Int)(tl:List Int)(w:World)(hNC:NC≤1000000000000)(ht:RdI w TA nt tl) :
 Calls prog 32 #[.agg #[.slice A n c,.slice B m d,.slice C k e],.agg #[xA,xB,xC,xQ,xG,.slice E S ce],.int .i64 NC,.int .i64 s,.slice TA nt ct] w (Qhk w (Qcs nt NC S m s tl)):=by
 have HLL:=Zh ht;have HTN:=Zh (fun (x:Int) V=>Qqn A B C n m k c d e x V);have HTY:=Zh (fun (x:Int) V=>Qkl A B C n m k c d e x V);clear ht;unfold Qcs
 by_cases i1:64<nt
 · rw [if_pos i1]
   unfold Qhk;have i1':(64:Int)<(nt:Int):=by omega
   go_enter func32,ntmps32
   go_wp2_with fail
   (refine Qac ?_;intro w1 hw1)
   have hb:Below w.heap.size w w1:=by rw [hw1];exact Qah
   have hN:Blk w1 w.heap.size 26 #[.slice A n c,.slice B m d,.slice C k e]:=by rw [hw1];exact Qbg
   have hO:Blk w1 (w.heap.size+1) 40 #[xA,xB,xC,xQ,xG,.slice E S ce]:=by rw [hw1];exact Qbg
   have hR:Blk w1 (w.heap.size+2) 48 #[.slice none 0 0,.int .i64 0]:=by rw [hw1];exact Qbg
   clear hw1;with_reducible refine (Qmp _ _ _ _).mono ?_
   rintro e w3 ⟨A4,n4,m4,rfl,h4,hA4,h5,hb3⟩;have hB3:=hR.below hb3 hR.lt;obtain ⟨d0,d1,f0,f1⟩:=hB3.two;have hbw3:=Zb hb hb3;have HW:=Zh ((h4.setFar (w.heap.size+2) 0 (.slice A4 n4 m4) (fun b e=>⟨by have:=(hA4 b e).1;have:=hR.lt;omega,(hA4 b e).2⟩)).setFar (w.heap.size+2) 1 (.int .i64 4) (fun b e=>⟨by have:=(hA4 b e).1;have:=hR.lt;omega,by simpa [World.setCell] using (hA4 b e).2⟩));have hbw4:Below w.heap.size w ((w3.setCell ⟨w.heap.size+2,0,none⟩ (.slice A4 n4 m4)).setCell ⟨w.heap.size+2,1,none⟩ (.int .i64 4)):=(hbw3.setCell (by simp only;omega) _).setCell (by simp only;omega) _;clear h4 hA4 hb3
   go_wp2_with fail
   refine bodyPost_ret (v:=.agg #[.slice A4 n4 m4,.int .i64 4]) (by simp [results,results32,go_sem,d0,d1]) rfl ?_;exact ⟨⟨_,_,_,rfl,HW.out,h5⟩,hbw4⟩
 rw [if_neg i1];have i1':¬(64:Int)<(nt:Int):=by omega
 by_cases i2:NC=S
 rotate_left
 · rw [if_pos i2]
   unfold Qhk;have i2':¬(NC:Int)=(S:Int):=by omega
   go_enter func32,ntmps32
   go_wp2_with fail
   (refine Qac ?_;intro w1 hw1)
   have hb:Below w.heap.size w w1:=by rw [hw1];exact Qah
   have hN:Blk w1 w.heap.size 26 #[.slice A n c,.slice B m d,.slice C k e]:=by rw [hw1];exact Qbg
   have hO:Blk w1 (w.heap.size+1) 40 #[xA,xB,xC,xQ,xG,.slice E S ce]:=by rw [hw1];exact Qbg
   have hR:Blk w1 (w.heap.size+2) 48 #[.slice none 0 0,.int .i64 0]:=by rw [hw1];exact Qbg
   clear hw1;with_reducible refine (Qmp _ _ _ _).mono ?_
   rintro e w3 ⟨A4,n4,m4,rfl,h4,hA4,h5,hb3⟩;have hB3:=hR.below hb3 hR.lt;obtain ⟨d0,d1,f0,f1⟩:=hB3.two;have hbw3:=Zb hb hb3;have HW:=Zh ((h4.setFar (w.heap.size+2) 0 (.slice A4 n4 m4) (fun b e=>⟨by have:=(hA4 b e).1;have:=hR.lt;omega,(hA4 b e).2⟩)).setFar (w.heap.size+2) 1 (.int .i64 1) (fun b e=>⟨by have:=(hA4 b e).1;have:=hR.lt;omega,by simpa [World.setCell] using (hA4 b e).2⟩));have hbw4:Below w.heap.size w ((w3.setCell ⟨w.heap.size+2,0,none⟩ (.slice A4 n4 m4)).setCell ⟨w.heap.size+2,1,none⟩ (.int .i64 1)):=(hbw3.setCell (by simp only;omega) _).setCell (by simp only;omega) _;clear h4 hA4 hb3
   go_wp2_with fail
   refine bodyPost_ret (v:=.agg #[.slice A4 n4 m4,.int .i64 1]) (by simp [results,results32,go_sem,d0,d1]) rfl ?_;exact ⟨⟨_,_,_,rfl,HW.out,h5⟩,hbw4⟩
 rw [if_neg (fun h=>h i2)];have h5':=i2.symm;subst h5'
 by_cases hs:0≤s∧s<(m:Int)
 rotate_left
 · rw [if_pos (by omega)]
   unfold Qhk
   go_enter func32,ntmps32
   go_wp2_with fail
   (refine Qac ?_;intro w1 hw1)
   have hb:Below w.heap.size w w1:=by rw [hw1];exact Qah
   have hN:Blk w1 w.heap.size 26 #[.slice A n c,.slice B m d,.slice C k e]:=by rw [hw1];exact Qbg
   have hO:Blk w1 (w.heap.size+1) 40 #[xA,xB,xC,xQ,xG,.slice E S ce]:=by rw [hw1];exact Qbg
   have hR:Blk w1 (w.heap.size+2) 48 #[.slice none 0 0,.int .i64 0]:=by rw [hw1];exact Qbg
   clear hw1;with_reducible refine (HTN.out s w1 hs).mono ?_
   rintro r w2 ⟨rfl,hb2⟩;have hR:=hR.below hb2 hR.lt;have hb:=Zb hb hb2;clear hN hO hb2
   go_wp2_with fail
   with_reducible refine (Qmp _ _ _ _).mono ?_
   rintro e w3 ⟨A4,n4,m4,rfl,h4,hA4,h5,hb3⟩;have hB3:=hR.below hb3 hR.lt;obtain ⟨d0,d1,f0,f1⟩:=hB3.two;have hbw3:=Zb hb hb3;have HW:=Zh ((h4.setFar (w.heap.size+2) 0 (.slice A4 n4 m4) (fun b e=>⟨by have:=(hA4 b e).1;have:=hR.lt;omega,(hA4 b e).2⟩)).setFar (w.heap.size+2) 1 (.int .i64 5) (fun b e=>⟨by have:=(hA4 b e).1;have:=hR.lt;omega,by simpa [World.setCell] using (hA4 b e).2⟩));have hbw4:Below w.heap.size w ((w3.setCell ⟨w.heap.size+2,0,none⟩ (.slice A4 n4 m4)).setCell ⟨w.heap.size+2,1,none⟩ (.int .i64 5)):=(hbw3.setCell (by simp only;omega) _).setCell (by simp only;omega) _;clear h4 hA4 hb3
   go_wp2_with fail
   refine bodyPost_ret (v:=.agg #[.slice A4 n4 m4,.int .i64 5]) (by simp [results,results32,go_sem,d0,d1]) rfl ?_;exact ⟨⟨_,_,_,rfl,HW.out,h5⟩,hbw4⟩
 rw [if_neg (by omega)]
 go_enter func32,ntmps32
 go_wp2_with fail
 (refine Qac ?_;intro w1 hw1)
 have hb:Below w.heap.size w w1:=by rw [hw1];exact Qah
 have hN:Blk w1 w.heap.size 26 #[.slice A n c,.slice B m d,.slice C k e]:=by rw [hw1];exact Qbg
 have hO:Blk w1 (w.heap.size+1) 40 #[xA,xB,xC,xQ,xG,.slice E S ce]:=by rw [hw1];exact Qbg
 have hR:Blk w1 (w.heap.size+2) 48 #[.slice none 0 0,.int .i64 0]:=by rw [hw1];exact Qbg
 clear hw1;with_reducible refine (HTY.out s w1 hs.1 hs.2).mono ?_
 rintro r w2 ⟨rfl,hb2⟩;have HN0:=Zh (hN.below hb2 hN.lt);have HR0:=Zh (hR.below hb2 hR.lt);have HB0:=Zh (Zb hb hb2);clear hN hO hR hb hb2
 go_wp2_with fail
 go_loopw [11] (fun q W=>∃ i:Nat,i≤nt∧q=.int .i64 i∧Below w.heap.size w W∧Blk W w.heap.size 26 #[.slice A n c,.slice B m d,.slice C k e]∧Blk W (w.heap.size+2) 48 #[.slice none 0 0,.int .i64 0]∧∀ (k:Nat) (b:Int),k<i→tl[k]?=some b→0≤b∧b<(m:Int)) (fun q _=>nt-(intOf q).toNat)
 case atStart=>exact ⟨0,Nat.zero_le _,rfl,HB0.out,HN0.out,HR0.out,fun k b hk=>by omega⟩
 case round =>
  obtain ⟨i,hi,rfl,hb,hN,hR,hk⟩:=hrel;have HK:=Zh hk;clear hk
  by_cases hlt:i<nt
  rotate_left
  · obtain rfl:nt=i:=by omega
    have i1:¬(nt:Int)<(nt:Int):=by omega
    have HE:=Zh (Qhw (m:=m) (fun k b hk=>HK.out k b (by have:=(Zs hk).1;have:=HLL.out.1;omega) hk));clear hi hlt;obtain ⟨d0,d1,f0,f1⟩:=hR.two;have hbw4:Below w.heap.size w ((wr.setCell ⟨w.heap.size+2,0,none⟩ (.slice none 0 0)).setCell ⟨w.heap.size+2,1,none⟩ (.int .i64 0)):=(hb.setCell (by simp only;omega) _).setCell (by simp only;omega) _
    go_wp2_with fail
    refine bodyPost_ret (v:=.agg #[.slice none 0 0,.int .i64 0]) (by simp [results,results32,go_sem,d0,d1]) rfl ?_;rw [HE.out];unfold Qhk;exact ⟨rfl,hbw4⟩
  obtain ⟨tb,to,a,hTA,ha,ca0⟩:=HLL.out.at_ hlt;have ca:=Zc hb (Zn _) ca0;have i1:(i:Int)<(nt:Int):=by omega
  have i2:(0:Int)≤(i:Int):=by omega
  obtain ⟨x0,x1,x2⟩:=hN.three;have HSX:=Zh (show ∀ V,Below wr.heap.size wr V→V.cell? ⟨w.heap.size,0,none⟩=some (.slice A n c)∧V.cell? ⟨w.heap.size,1,none⟩=some (.slice B m d)∧V.cell? ⟨w.heap.size,2,none⟩=some (.slice C k e)∧V.cell? ⟨tb,to+i,none⟩=some (.int .i64 a) from fun V hV=>⟨Zc hV (Zn _) x0,Zc hV (Zn _) x1,Zc hV (Zn _) x2,Zc hV (Zn _) ca⟩)
  have HA:=Zh ha;have HB:=Zh hb;have HNN:=Zh hN;have HRR:=Zh hR;subst hTA;clear ha ca0 ca x0 x1 x2 hb hN hR
  by_cases h1:0≤a∧a<(m:Int)
  · have HTA:=Zh (HTY.out a wr.drew h1.1 h1.2)
    have HN:=Zh (show ∀ (k:Nat) (b:Int),k<i+1→tl[k]?=some b→0≤b∧b<(m:Int) from fun k b hk hb=>by
     by_cases e:k<i
     · exact HK.out k b e hb
     · obtain rfl:k=i:=by omega
       rw [HA.out] at hb
       cases hb
       exact h1)
    clear h1
    go_wp2_with fail
    refine wp_region_held_drew (S:=fun V=>Below wr.heap.size wr V) (by kernel_rfl) (Zr _ _).drew (fun _=>?_);refine tz 0 33 ?_;refine tz 1 34 ?_;refine tz 2 35 ?_;refine tz 3 36 ?_;refine tz 4 37 ?_;refine Zk 5 (fun K hK=>?_);go_simp;with_reducible refine HTA.out.mono ?_
    rintro r wx ⟨rfl,hbx0⟩;have hbx:Below wr.heap.size wr wx:=(Zr _ _).drew.trans hbx0;go_simp;refine hK.out _ _ hbx (fun _=>?_);clear hK K hbx0;refine tz 6 39 ?_;refine Zd ?_;have HBx:=Zh (Zb HB.out hbx);have HNx:=Zh (HNN.out.below hbx HNN.out.lt);have HRx:=Zh (HRR.out.below hbx HRR.out.lt);clear hbx HSX HTA
    go_wp2_with fail
    go_roundw
    case rel=>exact ⟨i+1,by omega,by go_num,HBx.out,HNx.out,HRx.out,HN.out⟩
    case measure=>simp [intOf];omega
  · have HTA:=Zh (HTN.out a wr.drew h1)
    have HE:=Zh (Qjq HK.out HA.out (by omega:a<0∨(m:Int)≤a));clear h1
    go_wp2_with fail
    refine wp_region_held_drew (S:=fun V=>Below wr.heap.size wr V) (by kernel_rfl) (Zr _ _).drew (fun _=>?_);refine tz 0 33 ?_;refine tz 1 34 ?_;refine tz 2 35 ?_;refine tz 3 36 ?_;refine tz 4 37 ?_;refine Zk 5 (fun K hK=>?_);go_simp;with_reducible refine HTA.out.mono ?_
    rintro r wx ⟨rfl,hbx0⟩;have hbx:Below wr.heap.size wr wx:=(Zr _ _).drew.trans hbx0;go_simp;refine hK.out _ _ hbx (fun _=>?_);clear hK K hbx0;refine tz 6 39 ?_;refine Zd ?_;have hb:=Zb HB.out hbx;have hR:=HRR.out.below hbx HRR.out.lt;clear hbx HSX HTA
    go_wp2_with fail
    with_reducible refine (Qmp _ _ _ _).mono ?_
    rintro e w3 ⟨A4,n4,m4,rfl,h4,hA4,h5,hb3⟩;have hB3:=hR.below hb3 hR.lt;obtain ⟨d0,d1,f0,f1⟩:=hB3.two;have hbw3:=Zb hb hb3;have HW:=Zh ((h4.setFar (w.heap.size+2) 0 (.slice A4 n4 m4) (fun b e=>⟨by have:=(hA4 b e).1;have:=hR.lt;omega,(hA4 b e).2⟩)).setFar (w.heap.size+2) 1 (.int .i64 5) (fun b e=>⟨by have:=(hA4 b e).1;have:=hR.lt;omega,by simpa [World.setCell] using (hA4 b e).2⟩));have hbw4:Below w.heap.size w ((w3.setCell ⟨w.heap.size+2,0,none⟩ (.slice A4 n4 m4)).setCell ⟨w.heap.size+2,1,none⟩ (.int .i64 5)):=(hbw3.setCell (by simp only;omega) _).setCell (by simp only;omega) _;clear h4 hA4 hb3
    go_wp2_with fail
    refine bodyPost_ret (v:=.agg #[.slice A4 n4 m4,.int .i64 5]) (by simp [results,results32,go_sem,d0,d1]) rfl ?_;rw [HE.out];unfold Qhk;exact ⟨⟨_,_,_,rfl,HW.out,h5⟩,hbw4⟩
theorem Qqb {n:Nat} {p:Option (List Int)} {l:List Int} (h:Qej n p l=0):Qfg n l∧∀ q,p=some q→Qdq q l:=by
 unfold Qej at h
 split at h
 · cases h
 · split at h
   · assumption
   · cases h
set_option maxHeartbeats 2000000 in
set_option maxRecDepth 20000 in
theorem Qno (Q:Option Addr)(n L cq:Nat) (ls:List (List Int)) (w:World) (h:RdT w Q L ls) :
 Calls prog 113 #[.int .i64 n,.agg #[.slice Q L cq],.slice none 0 0] w fun e w'=>Qbw (Qbn n ls) e∧Below w.heap.size w w':=by
 have HT:=Zh h;clear h
 by_cases q0:(n:Int) > 4096
 · go_enter func113,ntmps113
   go_wp2_with fail
   (refine Qac ?_;intro w5 hw5)
   have hB5:Blk w5 (w.heap.size+1) 48 #[.slice none 0 0,.int .i64 0]:=by rw [hw5];exact Qbg
   have hb5:Below w.heap.size w w5:=by rw [hw5];exact Qah
   clear hw5;with_reducible refine (Qav _ _ _ _).mono ?_
   rintro e w2 ⟨⟨A4,n4,m4,rfl,hg4⟩,hb⟩;have hB2:=Blk.below hB5 hb hB5.lt;obtain ⟨c0,c1,f0,f1⟩:=hB2.two;have hb2:Below w.heap.size w w2:=Zb hb5 hb
   go_wp2_with fail
   refine bodyPost_ret (v:=.agg #[.slice A4 n4 m4,.int .i64 4]) (by simp [results,results113,go_sem,c0,c1]) rfl ?_
   first | exact ⟨Qbw.no (by decide),Qah⟩ | exact ⟨Qcq.no (Wg.mono (B:=w5.heap.size) (Wg.setCell (Wg.setCell hg4 hB5.lt _) hB5.lt _) hb5.size) (by decide),Qah⟩
 by_cases q1:(L:Int) > 6
 · go_enter func113,ntmps113
   go_wp2_with fail
   (refine Qac ?_;intro w5 hw5)
   have hB5:Blk w5 (w.heap.size+1) 48 #[.slice none 0 0,.int .i64 0]:=by rw [hw5];exact Qbg
   have hb5:Below w.heap.size w w5:=by rw [hw5];exact Qah
   clear hw5;with_reducible refine (Qav _ _ _ _).mono ?_
   rintro e w2 ⟨⟨A4,n4,m4,rfl,hg4⟩,hb⟩;have hB2:=Blk.below hB5 hb hB5.lt;obtain ⟨c0,c1,f0,f1⟩:=hB2.two;have hb2:Below w.heap.size w w2:=Zb hb5 hb
   go_wp2_with fail
   refine bodyPost_ret (v:=.agg #[.slice A4 n4 m4,.int .i64 4]) (by simp [results,results113,go_sem,c0,c1]) rfl ?_
   first | exact ⟨Qbw.no (by decide),Qah⟩ | exact ⟨Qcq.no (Wg.mono (B:=w5.heap.size) (Wg.setCell (Wg.setCell hg4 hB5.lt _) hB5.lt _) hb5.size) (by decide),Qah⟩
 by_cases q2:L=0
 · have j1:((L:Int) == 0)=true:=by simp;exact q2
   go_enter func113,ntmps113
   go_wp2_with fail
   (refine Qac ?_;intro w5 hw5)
   have hB5:Blk w5 (w.heap.size+1) 48 #[.slice none 0 0,.int .i64 0]:=by rw [hw5];exact Qbg
   have hb5:Below w.heap.size w w5:=by rw [hw5];exact Qah
   clear hw5;with_reducible refine (Qav _ _ _ _).mono ?_
   rintro e w2 ⟨⟨A4,n4,m4,rfl,hg4⟩,hb⟩;have hB2:=Blk.below hB5 hb hB5.lt;obtain ⟨c0,c1,f0,f1⟩:=hB2.two;have hb2:Below w.heap.size w w2:=Zb hb5 hb
   go_wp2_with fail
   refine bodyPost_ret (v:=.agg #[.slice A4 n4 m4,.int .i64 1]) (by simp [results,results113,go_sem,c0,c1]) rfl ?_
   first | exact ⟨Qbw.no (by decide),Qah⟩ | exact ⟨Qcq.no (Wg.mono (B:=w5.heap.size) (Wg.setCell (Wg.setCell hg4 hB5.lt _) hB5.lt _) hb5.size) (by decide),Qah⟩
 have j1:((L:Int) == 0)=false:=by simp;exact q2
 go_enter func113,ntmps113
 go_wp2_with fail
 (refine Qak ?_;intro w1 hw1)
 have hb1:Below w.heap.size w w1:=by rw [hw1];exact Qah
 have hQ:Blk w1 w.heap.size 29 #[.slice Q L cq]:=by rw [hw1];exact Qbg
 have hB:Blk w1 (w.heap.size+1) 48 #[.slice none 0 0,.int .i64 0]:=by rw [hw1];exact Qbg
 clear hw1
 go_loopw [7] (fun q W=>Below w.heap.size w W∧Blk W w.heap.size 29 #[.slice Q L cq]∧Blk W (w.heap.size+1) 48 #[.slice none 0 0,.int .i64 0]∧∃ i:Nat,i≤L∧q=.int .i64 ((i:Int)+1)∧∀ (j:Nat) (l:List Int),j<i→ls[j]?=some l→Qfg n l∧∀ q,Qff ls j=some q→Qdq q l) (fun q _=>L+1-(intOf q).toNat)
 case atStart=>exact ⟨hb1,hQ,hB,0,Nat.zero_le _,rfl,fun _ _ h=>absurd h (Nat.not_lt_zero _)⟩
 case round =>
  clear hb1 hQ hB;obtain ⟨hbl,hQ,hB,i,hi,rfl,hall⟩:=hrel;have HA:=Zh hall;clear hall;have y0:=hQ.cell 0;simp only [List.getElem?_toArray,List.getElem?_cons_zero] at y0
  by_cases hlt:i<L
  · obtain ⟨l,hl⟩:∃ l,ls[i]?=some l:=⟨_,Zg (by rw [HT.out.1];exact hlt)⟩
    have HCL:=Zh (Qlf Q n L cq i ls l wr (HT.out.below hbl) hl (by omega) (by omega) (fun j p e hp=>(HA.out j p (by omega) hp).1.len));have HLL:=Zh hl;have HI:=Zh (@Qqb n (Qff ls i) l);have i1:(i:Int)+1≤(L:Int):=by omega
    clear hl;generalize Qej n (Qff ls i) l=code at *
    go_wp2_with fail
    with_reducible refine HCL.out.mono ?_
    rintro e w2 ⟨rfl,hb2⟩;have hQ2:=hQ.below hb2 hQ.lt;have hB2:=hB.below hb2 hB.lt;have hbw2:=Zb hbl hb2;clear hQ hB y0 HCL hb2
    by_cases hc:code=0
    · subst hc
      have HO:=Zh (HI.out rfl);clear HI
      go_wp2_with fail
      go_roundw
      case rel=>exact ⟨hbw2,hQ2,hB2,i+1,by omega,by go_num,fun j l' hj hl'=>by
       by_cases e:j=i
       · subst e
         rw [HLL.out] at hl'
         cases hl'
         exact HO.out
       · exact HA.out j l' (by omega) hl'⟩
      case measure=>simp [intOf];omega
    · have e1:(code == 0)=false:=by simpa using hc
      have e2:(code != 0)=true:=by simpa using hc
      have HC:=Zh hc;clear hc
      go_wp2_with fail
      with_reducible refine (Qav _ _ _ _).mono ?_
      rintro e w3 ⟨⟨A4,n4,m4,rfl,hg4⟩,hb3⟩;have hB3:=hB2.below hb3 hB2.lt;obtain ⟨c0,c1,f0,f1⟩:=hB3.two;have hbw3:=Zb hbw2 hb3
      go_wp2_with fail
      refine bodyPost_ret (v:=.agg #[.slice A4 n4 m4,.int .i64 code]) (by simp [results,results113,go_sem,c0,c1]) rfl ?_;exact ⟨Qbw.no HC.out,Qah⟩
  · obtain rfl:L=i:=by omega
    obtain ⟨c0,c1,f0,f1⟩:=hB.two;have zB:=hB.lt
    have HP:=Zh (show Qbn n ls from ⟨by rw [HT.out.1];omega,by rw [HT.out.1];omega,fun l hl=>by
     obtain ⟨j,hj⟩:=List.getElem?_of_mem hl;exact (HA.out j l (by rw [←HT.out.1];exact (Zs hj).1) hj).1,fun j p l hp hl=>(HA.out (j+1) l (by rw [←HT.out.1];exact (Zs hl).1) hl).2 p (by rw [Qgs];exact hp)⟩)
    clear HA
    go_wp2_with fail
    refine bodyPost_ret (v:=.agg #[.slice none 0 0,.int .i64 0]) (by simp [results,results113,go_sem,c0,c1]) rfl ?_;exact ⟨⟨_,_,_,_,rfl,.inl ⟨rfl,HP.out⟩⟩,Qah⟩
structure FewP (ls:List (List Int)):Prop where
 l:ls.length≤10
 r:∀ l∈ls,l.length≤60
set_option maxHeartbeats 1000000 in
theorem fewP_any (Q:Option Addr)(L cq:Nat) (ls:List (List Int)) (w:World) (h:RdT w Q L ls) (hL:L≤9223372036854775807) :
 Calls prog 112 #[.agg #[.slice Q L cq]] w fun e w'=>Qie (FewP ls) e∧Below w.heap.size w w':=by
 have HT:=Zh h;have HLE:=Zh h.1;clear h
 go_enter func112,ntmps112
 go_wp2_with fail
 (refine Qak ?_;intro w1 hw1)
 have hb1:Below w.heap.size w w1:=by rw [hw1];exact Qah
 have hQ:Blk w1 w.heap.size 29 #[.slice Q L cq]:=by rw [hw1];exact Qbg
 have H1:=Zh (HT.out.below hb1);clear hw1;have y0:=hQ.cell 0;simp only [List.getElem?_toArray,List.getElem?_cons_zero] at y0
 go_loop [3] (fun q=>∃ i:Nat,i≤L∧q=.int .i64 i∧∀ j l,j<i→ls[j]?=some l→l.length≤60) (fun q=>L-(intOf q).toNat)
 case atStart=>exact ⟨0,Nat.zero_le _,rfl,fun _ _ h=>absurd h (Nat.not_lt_zero _)⟩
 case round =>
  obtain ⟨i,hi,rfl,hall⟩:=hrel;have HA:=Zh hall;clear hall
  by_cases hlt:i<L
  · obtain ⟨b,o,A,n,c,l,rfl,hl,hc,hr,q1,q2⟩:=H1.out.at_ hlt
    have i1:(0:Int)≤(i:Int):=by omega
    have i2:(i:Int)<(L:Int):=by omega
    have HLL:=Zh hl;have HR:=Zh hr.1;clear hl hr
    by_cases q3:(n:Int) > 60
    · go_wp2_with fail
      go_ret
      exact ⟨⟨false,rfl,fun h=>by cases h⟩,hb1⟩
    · go_wp2_with fail
      go_round
      case rel=>exact ⟨i+1,by omega,by go_num,fun j l' hj hl'=>by
       by_cases e:j=i
       · subst e
         rw [HLL.out] at hl'
         cases hl'
         rw [HR.out];omega
       · exact HA.out j l' (by omega) hl'⟩
      case measure=>simp [intOf];omega
  · obtain rfl:L=i:=by omega
    go_wp2_with fail
    go_ret
    refine ⟨⟨_,rfl,fun h=>⟨by rw [HLE.out];have:=of_decide_eq_true h;omega,fun l hl=>?_⟩⟩,hb1⟩;obtain ⟨j,hj⟩:=List.getElem?_of_mem hl;exact HA.out j l (by rw [←HLE.out];exact (Zs hj).1) hj
set_option maxHeartbeats 1000000 in
theorem Qwr (Q:Option Addr)(n L cq:Nat) (ls:List (List Int)) (w:World) (h:RdT w Q L ls) (hL:L≤9223372036854775807) :
 Calls prog 58 #[.int .i64 n,.agg #[.slice Q L cq]] w fun e w'=>Qie (FewP ls∧n≤60∧Qbn n ls) e∧Below w.heap.size w w':=by
 have HT:=Zh h;clear h
 go_enter func58,ntmps58
 go_wp2_with fail
 (refine Qac ?_;intro w1 hw1)
 have hb1:Below w.heap.size w w1:=by rw [hw1];exact Qah
 have hQ:Blk w1 w.heap.size 29 #[.slice Q L cq]:=by rw [hw1];exact Qbg
 clear hw1;with_reducible refine (fewP_any Q L cq ls w1 (HT.out.below hb1) hL).mono ?_
 rintro e w2 ⟨⟨bb,rfl,hf⟩,hb2⟩;have hbw2:=Zb hb1 hb2;have y0:=(hQ.below hb2 hQ.lt).cell 0;simp only [List.getElem?_toArray,List.getElem?_cons_zero] at y0;clear hQ hb2
 cases bb
 · go_wp2_with fail
   go_ret
   exact ⟨⟨false,rfl,fun h=>by cases h⟩,hbw2⟩
 have HF:=Zh (hf rfl);clear hf
 by_cases q0:(n:Int)≤60
 rotate_left
 · go_wp2_with fail
   go_ret
   exact ⟨⟨false,rfl,fun h=>by cases h⟩,hbw2⟩
 go_wp2_with fail
 with_reducible refine (Qno Q n L cq ls w2 (HT.out.below hbw2)).mono ?_
 rintro e w3 ⟨⟨A4,k4,c4,x,rfl,hx⟩,hb3⟩;have hbw3:=Zb hbw2 hb3;have hfe:=Qrs A4 k4 c4 x w3;clear y0
 rcases hx with ⟨rfl,hG⟩|hx
 · have HG:=Zh hG
   clear hG
   go_wp2_with fail
   go_ret
   exact ⟨⟨true,rfl,fun _=>⟨HF.out,by omega,HG.out⟩⟩,hbw3⟩
 · go_wp2_with fail
   go_ret
   exact ⟨⟨_,rfl,fun h=>absurd (by simpa using h) hx⟩,hbw3⟩
structure MayOk (N:Qap) (ls:List (List Int)):Prop where
 small:Qvk N
 few:FewP ls
 part:Qbn N.vs.length ls
set_option maxHeartbeats 1000000 in
theorem Qxp (A B C Q:Option Addr)(n m k c d e L cq:Nat)(N:Qap) (ls:List (List Int)) (w:World) (h:Qcj w A B C n m k N) (hk:k≤9223372036854775807) (hq:RdT w Q L ls) (hL:L≤9223372036854775807) :
 Calls prog 16 #[.agg #[.slice A n c,.slice B m d,.slice C k e],.agg #[.slice Q L cq]] w fun e w'=>Qie (MayOk N ls) e∧Below w.heap.size w w':=by
 have HH:=Zh h;have HT:=Zh hq;have HLV:=Zh h.1.1;clear h hq
 go_enter func16,ntmps16
 go_wp2_with fail
 (refine Qac ?_;intro w1 hw1)
 have hb1:Below w.heap.size w w1:=by rw [hw1];exact Qah
 have hN:Blk w1 w.heap.size 26 #[.slice A n c,.slice B m d,.slice C k e]:=by rw [hw1];exact Qbg
 have hQ:Blk w1 (w.heap.size+1) 29 #[.slice Q L cq]:=by rw [hw1];exact Qbg
 clear hw1;with_reducible refine (Qwd A B C n m k c d e N w1 (HH.out.below hb1) hk).mono ?_
 rintro r w2 ⟨⟨bb,rfl,hf⟩,hb2⟩;have hbw2:=Zb hb1 hb2;have y0:=(hQ.below hb2 hQ.lt).cell 0;simp only [List.getElem?_toArray,List.getElem?_cons_zero] at y0;obtain ⟨n0,n1,n2⟩:=(hN.below hb2 hN.lt).three;clear hQ hb2 hN
 cases bb
 · go_wp2_with fail
   go_ret
   exact ⟨⟨false,rfl,fun h=>by cases h⟩,hbw2⟩
 have HF:=Zh (hf rfl);clear hf
 go_wp2_with fail
 with_reducible refine (Qwr Q n L cq ls w2 (HT.out.below hbw2) hL).mono ?_
 rintro r w3 ⟨⟨bb,rfl,hf⟩,hb3⟩;have HF2:=Zh hf;have hbw3:=Zb hbw2 hb3;clear hf
 go_wp2_with fail
 go_ret
 exact ⟨⟨bb,rfl,fun h=>⟨HF.out,(HF2.out h).1,by rw [HLV.out];exact (HF2.out h).2.2⟩⟩,hbw3⟩
theorem Qrt {N:Qap} {ls:List (List Int)} (h:MayOk N ls):Qcd (Qaf N.ar ls)≤1000000000:=by
 have hA:=h.small.a;have hv:=h.small.v;have h6:=h.part.l6
 have hx:∀ x∈(Qaf N.ar ls).map Qdp,x≤194400:=fun z hz=>by
  obtain ⟨row,hr,rfl⟩:=List.mem_map.1 hz;obtain ⟨l,hl,rfl⟩:=List.mem_map.1 hr
  have hm:∀ y∈(Qae N.ar l).map szG,y≤8100:=fun y hy=>by
   obtain ⟨x,hx,rfl⟩:=List.mem_map.1 hy;obtain ⟨c,hc⟩:=List.getElem?_of_mem hx;have g:=Qbp hc;unfold szG;have:=Nat.mul_le_mul (show x.1.length≤90 by omega) (show x.2.length≤90 by omega)
   omega
  have h1:=Qsw hm;have h2:=h.part.lvl l hl;have h3:=Qby (l:=l) (n:=(N.vs.length:Int)) (fun x hx=>h2.hi x hx) (by omega);rw [List.length_map,Qas] at h1;have h4:(Qaq l).toNat*8100≤24*8100:=Nat.mul_le_mul_right _ (by omega);unfold Qdp;omega
 have h1:=Qsw hx;rw [List.length_map,show (Qaf N.ar ls).length=ls.length by simp [Qaf]] at h1
 have h4:ls.length*194400≤6*194400:=Nat.mul_le_mul_right _ (by omega);unfold Qcd;omega
end Go.Proofs.YteaoiabikjnkeaaGreatDoor
