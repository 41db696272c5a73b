/- Parts of the proof: AsW, AsE. -/
import Derived.Test.YteaoiabikjnkeaaGreatDoorC1
import Derived.Test.YteaoiabikjnkeaaGreatDoorC20
import Derived.Test.YteaoiabikjnkeaaGreatDoorC23
namespace Go.Proofs.YteaoiabikjnkeaaGreatDoor
open Go.RowKit Go.Proofs.Tryz
attribute [local go_sem ↓] Go.wp_at_zero Go.wp_at_succ
theorem Qvx:(Tryz.prog.info? 157).map (fun i=>(i.zero,i.size,i.bytes))=some (some (.agg #[.int .i64 0,.int .i64 0,.int .i64 0]),3,24):=by kernel_rfl
theorem infoCA:(Tryz.prog.info? 152).map (fun i=>(i.zero,i.size,i.bytes))=some (some (.agg #[.int .i64 0,.int .i64 0,.int .i64 0]),3,24):=by kernel_rfl
structure ChS (g:Nat) (c3:Value) (w1 W:World) (i j:Nat) (V A:Option Addr) (cv ca:Nat):Prop where
 bel:Below g w1 W
 box:Blk W g 26 #[.slice V i cv,.slice A j ca,c3]
 v:Own W (g+1) 157 3 V i cv (Qav (Qao.vs.take i))
 a:Own W (g+1) 152 3 A j ca (Qav (Qao.ar.take j))
 d:∀ b,Qac V=some b→Qac A≠some b
theorem ChS.below {g i j cv ca:Nat}{c3:Value}{w1 W W':World}{V A:Option Addr}(h:ChS g c3 w1 W i j V A cv ca)(hb:Below W.heap.size W W'):ChS g c3 w1 W' i j V A cv ca :=
 ⟨h.bel.trans (hb.mono (Nat.le_of_lt h.box.lt)),h.box.below hb h.box.lt,h.v.below hb,h.a.below hb,h.d⟩
theorem ChS.pushV {g i j cv ca c':Nat}{c3:Value}{w1 W W':World}{V A V':Option Addr}(h:ChS g c3 w1 W i j V A cv ca) (hg:W.grownBy W' (Qac V)) (ho:Own W' (g+1) 157 3 V' (i+1) c' (Qav (Qao.vs.take (i+1)))) (hat:Qac V'=Qac V∨Qac V'=some W.heap.size) :
 ChS g c3 w1 (W'.setCell ⟨g,0,none⟩ (.slice V' (i+1) c')) (i+1) j V' A c' ca:=by
 have hne:Qac V≠some g:=fun e=>by have:=(h.v.lt g e).1;omega
 have hnA:Qac A≠some g:=fun e=>by have:=(h.a.lt g e).1;omega
 have hnV:Qac V'≠some g:=fun e=>by have:=(ho.lt g e).1;omega
 have hb:=h.box.grown hg hne;refine ⟨(Bel.grownOwn h.bel hg (h.v.mono (Nat.le_succ g)) (Nat.le_of_lt h.box.lt)).setCell (by simp only;omega) _,?_,ho.far (Qaa _ _ _ _) (.inr hnV),(h.a.far hg ?_).far (Qaa _ _ _ _) (.inr hnA),?_⟩
 · have:=hb.set_ 0 (.slice V' (i+1) c')
   simpa using this
 · cases hA:Qac A with
   | none=>exact .inl rfl
   | some b=>exact .inr (fun e=>h.d b e.symm hA)
 · intro b hb hA
   rcases hat with e|e
   · exact h.d b (by rw [←e];exact hb) hA
   · have:=(h.a.lt b hA).2
     rw [e] at hb
     injection hb with hb
     omega
theorem ChS.pushA {g i j cv ca c':Nat}{c3:Value}{w1 W W':World}{V A A':Option Addr}(h:ChS g c3 w1 W i j V A cv ca) (hg:W.grownBy W' (Qac A)) (ho:Own W' (g+1) 152 3 A' (j+1) c' (Qav (Qao.ar.take (j+1)))) (hat:Qac A'=Qac A∨Qac A'=some W.heap.size) :
 ChS g c3 w1 (W'.setCell ⟨g,1,none⟩ (.slice A' (j+1) c')) i (j+1) V A' cv c':=by
 have hne:Qac A≠some g:=fun e=>by have:=(h.a.lt g e).1;omega
 have hnV:Qac V≠some g:=fun e=>by have:=(h.v.lt g e).1;omega
 have hnA:Qac A'≠some g:=fun e=>by have:=(ho.lt g e).1;omega
 have hb:=h.box.grown hg hne;refine ⟨(Bel.grownOwn h.bel hg (h.a.mono (Nat.le_succ g)) (Nat.le_of_lt h.box.lt)).setCell (by simp only;omega) _,?_,(h.v.far hg ?_).far (Qaa _ _ _ _) (.inr hnV),ho.far (Qaa _ _ _ _) (.inr hnA),?_⟩
 · have:=hb.set_ 1 (.slice A' (j+1) c')
   simpa using this
 · cases hV:Qac V with
   | none=>exact .inl rfl
   | some b=>exact .inr (fun e=>h.d b hV e.symm)
 · intro b hV hb
   rcases hat with e|e
   · exact h.d b hV (by rw [←e];exact hb)
   · have:=(h.v.lt b hV).2
     rw [e] at hb
     injection hb with hb
     omega
theorem ch_vs (i:Nat)(h:i<6):∃ ty:Int,Qao.vs[i]?=some ((i:Int),0,ty)∧(i=0→ty=1)∧(i=5→ty=2)∧(i≠0→i≠5→ty=0):=by
 rcases (by omega:i=0∨i=1∨i=2∨i=3∨i=4∨i=5) with rfl|rfl|rfl|rfl|rfl|rfl
 · exact ⟨1,rfl,by simp,by simp,by simp⟩
 · exact ⟨0,rfl,by simp,by simp,by simp⟩
 · exact ⟨0,rfl,by simp,by simp,by simp⟩
 · exact ⟨0,rfl,by simp,by simp,by simp⟩
 · exact ⟨0,rfl,by simp,by simp,by simp⟩
 · exact ⟨2,rfl,by simp,by simp,by simp⟩
theorem ch_ar (j:Nat)(h:j<5):Qao.ar[j]?=some ((j:Int),((j+1:Nat):Int),10):=by
 rcases (by omega:j=0∨j=1∨j=2∨j=3∨j=4) with rfl|rfl|rfl|rfl|rfl <;> rfl
theorem ch_takeV {i:Nat}{x:Tri} (h:Qao.vs[i]?=some x):Qav (Qao.vs.take (i+1))=Qav (Qao.vs.take i) ++Qav [x]:=by rw [List.take_add_one,h,←Qdr];rfl
theorem ch_takeA {i:Nat}{x:Tri} (h:Qao.ar[i]?=some x):Qav (Qao.ar.take (i+1))=Qav (Qao.ar.take i) ++Qav [x]:=by rw [List.take_add_one,h,←Qdr];rfl
def ChnP (w:World)(r:Ending)(w':World):Prop :=
 (∃ (A B C Q:Option Addr) (a b c q:Nat),r=.returned (.tuple #[.agg #[.slice A 6 a,.slice B 5 b,.slice C 3 c],.agg #[.slice Q 1 q]])∧Qca w' A B C 6 5 3 Qao∧RdT w' Q 1 Qbd)∧Below w.heap.size w w'
set_option maxRecDepth 20000 in
set_option maxHeartbeats 4000000 in
theorem chain_ok (w:World):Calls prog 36 #[] w (ChnP w):=by
 unfold ChnP
 go_enter func36,ntmps36
 go_wp2_with fail
 (refine Qaj ?_;intro w1 hw1)
 have HB1:=Zh (show Below w.heap.size w w1 by rw [hw1];exact Qah)
 have HZ1:=Zh (show w1.heap.size=w.heap.size+1+1+1+1+1+1 by rw [hw1];simp)
 have HC0:=Zh (show Blk w1 w.heap.size 26 #[.slice none 0 0,.slice none 0 0,.slice none 0 0] by rw [hw1];exact Qbf)
 have HC1:=Zh (show Blk w1 (w.heap.size+1) 29 #[.slice none 0 0] by rw [hw1];exact Qbf)
 have HC2:=Zh (show Blk w1 (w.heap.size+1+1) 2 #[.int .i64 1] by rw [hw1];exact Qbf)
 have HC4:=Zh (show Blk w1 (w.heap.size+1+1+1+1) 155 #[.int .i64 1,.int .i64 1,.slice (some ⟨w.heap.size+1+1,0,none⟩) 1 1,.int .i64 0,.int .i64 1,.slice none 0 0,.int .i64 1,.int .i64 0,.slice none 0 0] by rw [hw1];exact Qbf)
 have hN:Blk w1 (w.heap.size+1+1+1+1+1) 26 #[.slice none 0 0,.slice none 0 0,.slice (some ⟨w.heap.size+1+1+1+1,0,none⟩) 3 3]:=by rw [hw1];exact Qbf
 have HST:=Zh (show ChS (w.heap.size+1+1+1+1+1) (.slice (some ⟨w.heap.size+1+1+1+1,0,none⟩) 3 3) w1 w1 0 0 none none 0 0 from ⟨Zr _ _,hN,Own.nil _ _ _ _,Own.nil _ _ _ _,fun b hb=>by cases hb⟩)
 clear hw1 hN
 go_loopw [4] (fun q W=>∃ (i j:Nat) (V A:Option Addr) (cv ca:Nat),i≤6∧j=i-1∧q=.int .i64 i∧ChS (w.heap.size+1+1+1+1+1) (.slice (some ⟨w.heap.size+1+1+1+1,0,none⟩) 3 3) w1 W i j V A cv ca) (fun q _=>7-(intOf q).toNat)
 case atStart=>exact ⟨0,0,none,none,0,0,by omega,rfl,rfl,HST.out⟩
 case round =>
  obtain ⟨i,j,V,A,cv,ca,hi,hj,rfl,hch⟩:=hrel;have HCH:=Zh hch
  by_cases hlt:i<6
  rotate_left
  · obtain rfl:i=6:=by omega
    obtain rfl:j=5:=by omega
    clear hi hj hlt;have hbx:=hch.box;have x0:wr.cell? ⟨w.heap.size+1+1+1+1+1,0,none⟩=some (.slice V 6 cv):=Zq hbx;have x1:wr.cell? ⟨w.heap.size+1+1+1+1+1,1,none⟩=some (.slice A 5 ca):=Zq hbx;have x2:wr.cell? ⟨w.heap.size+1+1+1+1+1,2,none⟩=some (.slice (some ⟨w.heap.size+1+1+1+1,0,none⟩) 3 3):=Zq hbx;have hz1:=HZ1.out;have hzr:w.heap.size+1+1+1+1+1<wr.heap.size:=hbx.lt
    have hC0:Blk wr w.heap.size 26 #[.slice none 0 0,.slice none 0 0,.slice none 0 0]:=HC0.out.below hch.bel (by omega);have hC1:Blk wr (w.heap.size+1) 29 #[.slice none 0 0]:=HC1.out.below hch.bel (by omega);have hC2:=HC2.out.below hch.bel (by omega);have hC4:=HC4.out.below hch.bel (by omega);obtain ⟨W6,hW6⟩:∃ W6,W6=(((wr.setCell ⟨w.heap.size,0,none⟩ (.slice V 6 cv)).setCell ⟨w.heap.size,1,none⟩ (.slice A 5 ca)).setCell ⟨w.heap.size,2,none⟩ (.slice (some ⟨w.heap.size+1+1+1+1,0,none⟩) 3 3)).setCell ⟨w.heap.size+1,0,none⟩ (.slice (some ⟨wr.heap.size+1,0,none⟩) 1 1):=⟨_,rfl⟩;have hz6:W6.heap.size=wr.heap.size:=by rw [hW6];simp [World.setCell]
    have HC0':=Zh (show Blk W6 w.heap.size 26 #[.slice V 6 cv,.slice A 5 ca,.slice (some ⟨w.heap.size+1+1+1+1,0,none⟩) 3 3] by
     have h0:=((hC0.set_ 0 (.slice V 6 cv)).set_ 1 (.slice A 5 ca)).set_ 2 (.slice (some ⟨w.heap.size+1+1+1+1,0,none⟩) 3 3);rw [hW6];refine Blk.far_ (by simpa using h0) ?_ _;omega)
    have HC1':=Zh (show Blk W6 (w.heap.size+1) 29 #[.slice (some ⟨wr.heap.size+1,0,none⟩) 1 1] by
     have h1:Blk (((wr.setCell ⟨w.heap.size,0,none⟩ (.slice V 6 cv)).setCell ⟨w.heap.size,1,none⟩ (.slice A 5 ca)).setCell ⟨w.heap.size,2,none⟩ (.slice (some ⟨w.heap.size+1+1+1+1,0,none⟩) 3 3)) (w.heap.size+1) 29 #[.slice none 0 0]:=Blk.far_ (Blk.far_ (Blk.far_ hC1 (by omega) _) (by omega) _) (by omega) _;rw [hW6]
     simpa using h1.set_ 0 (.slice (some ⟨wr.heap.size+1,0,none⟩) 1 1))
    have HC2':=Zh (show Blk W6 (w.heap.size+1+1) 2 #[.int .i64 1] by rw [hW6];exact Blk.far_ (Blk.far_ (Blk.far_ (Blk.far_ hC2 (by omega) _) (by omega) _) (by omega) _) (by omega) _)
    have HC4':=Zh (show Blk W6 (w.heap.size+1+1+1+1) 155 #[.int .i64 1,.int .i64 1,.slice (some ⟨w.heap.size+1+1,0,none⟩) 1 1,.int .i64 0,.int .i64 1,.slice none 0 0,.int .i64 1,.int .i64 0,.slice none 0 0] by rw [hW6];exact Blk.far_ (Blk.far_ (Blk.far_ (Blk.far_ hC4 (by omega) _) (by omega) _) (by omega) _) (by omega) _)
    have HV:=Zh (show Rd3 W6 V 6 Qao.vs by
     have h1:=hch.v;have:=((((h1.far (Qaa _ w.heap.size 0 (.slice V 6 cv)) (.inr (h1.ne (by omega)))).far (Qaa _ w.heap.size 1 (.slice A 5 ca)) (.inr (h1.ne (by omega)))).far (Qaa _ w.heap.size 2 (.slice (some ⟨w.heap.size+1+1+1+1,0,none⟩) 3 3)) (.inr (h1.ne (by omega)))).far (Qaa _ (w.heap.size+1) 0 (.slice (some ⟨wr.heap.size+1,0,none⟩) 1 1)) (.inr (h1.ne (by omega)))).rds.rd3;rw [hW6];exact this)
    have HA:=Zh (show Rd3 W6 A 5 Qao.ar by
     have h1:=hch.a;have:=((((h1.far (Qaa _ w.heap.size 0 (.slice V 6 cv)) (.inr (h1.ne (by omega)))).far (Qaa _ w.heap.size 1 (.slice A 5 ca)) (.inr (h1.ne (by omega)))).far (Qaa _ w.heap.size 2 (.slice (some ⟨w.heap.size+1+1+1+1,0,none⟩) 3 3)) (.inr (h1.ne (by omega)))).far (Qaa _ (w.heap.size+1) 0 (.slice (some ⟨wr.heap.size+1,0,none⟩) 1 1)) (.inr (h1.ne (by omega)))).rds.rd3;rw [hW6];exact this)
    have hbr:Below w.heap.size w wr:=HB1.out.trans (hch.bel.mono (by omega));have HB6:=Zh (show Below w.heap.size w W6 by rw [hW6];exact ((((hbr.setCell (by simp only;omega) _).setCell (by simp only;omega) _).setCell (by simp only;omega) _).setCell (by simp only;omega) _))
    have HW6:=Zh hW6;have HZ6:=Zh hz6;obtain ⟨k0,k1,k2⟩:=hC0.three;have fk0:=hC0.frozen 0;have fk1:=hC0.frozen 1;have fk2:=hC0.frozen 2;have p0:=hC1.cell 0;simp only [List.getElem?_toArray,List.getElem?_cons_zero] at p0;have fp0:=hC1.frozen 0;have kl:=hC0.lt;have pl:=hC1.lt;have xl:=hbx.lt;clear hch hbx hC0 hC1 hC2 hC4 hW6 hz6 hbr
    go_wp2_with fail
    rw [←HW6.out]
    (refine Qej ?_;intro Wf hWf)
    have hbf:Below W6.heap.size W6 Wf:=by rw [hWf];exact Qah
    have h1:Blk Wf wr.heap.size 3 #[.int .i64 0,.int .i64 0,.int .i64 1,.int .i64 1,.int .i64 2,.int .i64 2]:=by rw [hWf,←HZ6.out];exact Qbf
    have h2:Blk Wf (wr.heap.size+1) 67 #[.slice (some ⟨wr.heap.size,0,none⟩) 6 6]:=by rw [hWf,←HZ6.out];exact Qbf
    have hB0:=HC0'.out.below hbf HC0'.out.lt;have hB1:=HC1'.out.below hbf HC1'.out.lt;have h3:=HC2'.out.below hbf HC2'.out.lt;have h4:=HC4'.out.below hbf HC4'.out.lt;obtain ⟨c0,c1,c2⟩:=hB0.three;have d0:=hB1.cell 0;simp only [List.getElem?_toArray,List.getElem?_cons_zero] at d0
    have HVf:=Zh (show Qca Wf V A (some ⟨w.heap.size+1+1+1+1,0,none⟩) 6 5 3 Qao from by
     refine ⟨HV.out.below hbf,HA.out.below hbf,rfl,fun i t ht=>⟨w.heap.size+1+1+1+1,0,rfl,?_⟩⟩
     match i,ht with
     | 0,ht =>
      cases ht
      exact ⟨Zq h4,Zq h4,some ⟨w.heap.size+1+1,0,none⟩,1,1,Zq h4,Rds.rdI (l:=[1]) (h3.rds rfl),Zn _,by omega⟩
     | 1,ht =>
      cases ht
      exact ⟨Zq h4,Zq h4,none,0,0,Zq h4,⟨rfl,fun j x hx=>by simp at hx⟩,Zn _,by omega⟩
     | 2,ht =>
      cases ht
      exact ⟨Zq h4,Zq h4,none,0,0,Zq h4,⟨rfl,fun j x hx=>by simp at hx⟩,Zn _,by omega⟩
     | k+3,ht=>simp [Qao] at ht)
    have HTf:=Zh (show RdT Wf (some ⟨wr.heap.size+1,0,none⟩) 1 Qbd from by
     refine ⟨rfl,fun i l hl=>?_⟩
     match i,hl with
     | 0,hl =>
      cases hl
      exact ⟨wr.heap.size+1,0,some ⟨wr.heap.size,0,none⟩,6,6,rfl,Zq h2,Rds.rdI (l:=[0,0,1,1,2,2]) (h1.rds rfl),Zn _,by omega⟩
     | k+1,hl=>simp [Qbd] at hl)
    have HBf:=Zh (Zb HB6.out hbf);refine bodyPost_ret (v:=.tuple #[.agg #[.slice V 6 cv,.slice A 5 ca,.slice (some ⟨w.heap.size+1+1+1+1,0,none⟩) 3 3],.agg #[.slice (some ⟨wr.heap.size+1,0,none⟩) 1 1]]) (by simp [results,results36,go_sem,c0,c1,c2,d0]) rfl ?_;exact ⟨⟨_,_,_,_,_,_,_,_,rfl,HVf.out,HTf.out⟩,HBf.out⟩
  have HJ:=Zh hj;obtain ⟨ty,hty,t0,t5,tm⟩:=ch_vs i hlt;have HTY:=Zh hty;have HTV:=Zh (ch_takeV hty);clear hty
  by_cases hi0:i=0
  · obtain rfl:=t0 hi0
    have hj0:j=0:=by omega
    have e0:((i:Int) == 0)=true:=by simp [hi0]
    have e5:((i:Int) == 5)=false:=by simp [hi0]
    have e6:¬(0:Int)<(i:Int):=by omega
    have HI0:=Zh hi0;have HJ0:=Zh hj0;clear t0 t5 tm hi0 hj0 hj;obtain ⟨x0,x1,x2⟩:=hch.box.three;have xl:=hch.box.lt;obtain ⟨W2,hW2⟩:∃ W2,W2=wr.alloc (.cells #[.int .i64 (i:Int),.int .i64 0,.int .i64 (1:Int)] 157):=⟨_,rfl⟩;have hb2:Below wr.heap.size wr W2:=by rw [hW2];exact Qah
    obtain ⟨W3,hW3⟩:∃ W3,W3=W2.alloc (.cells #[.int .i64 (i:Int),.int .i64 0,.int .i64 (1:Int)] 157):=⟨_,rfl⟩;have hb3:Below W2.heap.size W2 W3:=by rw [hW3];exact Qah
    have hb23:Below wr.heap.size wr W3:=Zb hb2 hb3;have HC3:=Zh (hch.below hb23);have hz2:W2.heap.size=wr.heap.size+1:=by rw [hW2];simp
    have hrd:Rds W3 3 (some ⟨wr.heap.size+1,0,none⟩) 1 (Qav [((i:Int),0,(1:Int))]):=by rw [hW3,←hz2];exact (Blk.new W2 157 #[.int .i64 (i:Int),.int .i64 0,.int .i64 (1:Int)]).rds rfl
    have hown:=HC3.out.v;have hsz:w.heap.size+1+1+1+1+1+1≤W3.heap.size:=HC3.out.box.lt;have HW3:=Zh hW3;have HW2:=Zh hW2;clear hch hb2 hb3 hb23 hW3 hW2 hz2
    go_wp2_with (at_builtin;rw [←HW2.out,←HW3.out];with_reducible refine Qap rfl (.tmp 26) (.tmp 28) 22 rfl 157 _ 3 24 Qvx underlying22 rfl (by omega) rfl rfl hown hrd (Qdd _) (by omega) (by omega) hsz ?_)
    intro V' c' w4 ho4 hg4 hat4;have hB4:=HC3.out.box.grown hg4 (hown.ne (by omega));clear x0 x1 x2 xl;obtain ⟨x0,x1,x2⟩:=hB4.three;have fx0:=hB4.frozen 0;have fx1:=hB4.frozen 1;have HS4:=Zh (HC3.out.pushV hg4 (by rw [HTV.out];exact ho4) hat4);obtain ⟨W4,hW4⟩:∃ W4,W4=w4.setCell ⟨w.heap.size+1+1+1+1+1,0,none⟩ (.slice V' (i+1) c'):=⟨_,rfl⟩;rw [←hW4] at HS4;have HW4:=Zh hW4;clear hown hrd hsz ho4 hg4 hat4 hB4 HC3 hW4
    go_wp2_with fail
    rw [←HW4.out]
    go_roundw
    case rel=>exact ⟨i+1,j,V',A,c',ca,by omega,by have:=HI0.out;have:=HJ0.out;omega,by go_num,HS4.out⟩
    case measure=>simp [intOf];omega
  have e0:((i:Int) == 0)=false:=by simpa using hi0
  have e6:(0:Int)<(i:Int):=by omega
  have eij:(i:Int)-1=(j:Int):=by omega
  have wl:IntKind.i64.wrap (j:Int)=(j:Int):=IntWalk.i64_in _ (by omega);have hAR:=ch_ar j (by omega);rw [show ((j+1:Nat):Int)=(i:Int) by omega] at hAR
  have HTA:=Zh (ch_takeA hAR);clear hAR t0 hj
  by_cases hi5:i=5
  · obtain rfl:=t5 hi5
    have e5:((i:Int) == 5)=true:=by simp [hi5]
    clear t5 tm hi5;obtain ⟨x0,x1,x2⟩:=hch.box.three;have xl:=hch.box.lt;obtain ⟨W2,hW2⟩:∃ W2,W2=wr.alloc (.cells #[.int .i64 (i:Int),.int .i64 0,.int .i64 (2:Int)] 157):=⟨_,rfl⟩;have hb2:Below wr.heap.size wr W2:=by rw [hW2];exact Qah
    obtain ⟨W3,hW3⟩:∃ W3,W3=W2.alloc (.cells #[.int .i64 (i:Int),.int .i64 0,.int .i64 (2:Int)] 157):=⟨_,rfl⟩;have hb3:Below W2.heap.size W2 W3:=by rw [hW3];exact Qah
    have hb23:Below wr.heap.size wr W3:=Zb hb2 hb3;have HC3:=Zh (hch.below hb23);have hz2:W2.heap.size=wr.heap.size+1:=by rw [hW2];simp
    have hrd:Rds W3 3 (some ⟨wr.heap.size+1,0,none⟩) 1 (Qav [((i:Int),0,(2:Int))]):=by rw [hW3,←hz2];exact (Blk.new W2 157 #[.int .i64 (i:Int),.int .i64 0,.int .i64 (2:Int)]).rds rfl
    have hown:=HC3.out.v;have hsz:w.heap.size+1+1+1+1+1+1≤W3.heap.size:=HC3.out.box.lt;have HW3:=Zh hW3;have HW2:=Zh hW2;clear hch hb2 hb3 hb23 hW3 hW2 hz2
    go_wp2_with (at_builtin;rw [←HW2.out,←HW3.out];with_reducible refine Qap rfl (.tmp 26) (.tmp 28) 22 rfl 157 _ 3 24 Qvx underlying22 rfl (by omega) rfl rfl hown hrd (Qdd _) (by omega) (by omega) hsz ?_)
    intro V' c' w4 ho4 hg4 hat4;have hB4:=HC3.out.box.grown hg4 (hown.ne (by omega));clear x0 x1 x2 xl;obtain ⟨x0,x1,x2⟩:=hB4.three;have fx0:=hB4.frozen 0;have fx1:=hB4.frozen 1;have HS4:=Zh (HC3.out.pushV hg4 (by rw [HTV.out];exact ho4) hat4);obtain ⟨W4,hW4⟩:∃ W4,W4=w4.setCell ⟨w.heap.size+1+1+1+1+1,0,none⟩ (.slice V' (i+1) c'):=⟨_,rfl⟩;rw [←hW4] at HS4;have HW4:=Zh hW4;clear hown hrd hsz ho4 hg4 hat4 hB4 HC3 hW4;have x4l:w.heap.size+1+1+1+1+1<w4.heap.size:=by have:=HS4.out.box.lt;rw [HW4.out] at this;simpa [World.setCell] using this
    have hz4:W4.heap.size=w4.heap.size:=by rw [HW4.out];simp [World.setCell]
    obtain ⟨W5,hW5⟩:∃ W5,W5=W4.alloc (.cells #[.int .i64 (j:Int),.int .i64 (i:Int),.int .i64 10] 152):=⟨_,rfl⟩;have hb5:Below W4.heap.size W4 W5:=by rw [hW5];exact Qah
    have HC5:=Zh (HS4.out.below hb5);have hrd:Rds W5 3 (some ⟨w4.heap.size,0,none⟩) 1 (Qav [((j:Int),(i:Int),10)]):=by rw [hW5,←hz4];exact (Blk.new W4 152 #[.int .i64 (j:Int),.int .i64 (i:Int),.int .i64 10]).rds rfl
    have hown:=HC5.out.a;have hsz:w.heap.size+1+1+1+1+1+1≤W5.heap.size:=HC5.out.box.lt;have HW5:=Zh hW5;clear hb5 hW5 hz4
    go_wp2_with (at_builtin;rw [←HW4.out,←HW5.out];with_reducible refine Qap rfl (.tmp 34) (.tmp 39) 23 rfl 152 _ 3 24 infoCA underlying23 rfl (by omega) rfl rfl hown hrd (Qdd _) (by omega) (by omega) hsz ?_)
    intro A' d' w6 ho6 hg6 hat6;have hB6:=HC5.out.box.grown hg6 (hown.ne (by omega));obtain ⟨y0,y1,y2⟩:=hB6.three;have fy1:=hB6.frozen 1;have HS6:=Zh (HC5.out.pushA hg6 (by rw [HTA.out];exact ho6) hat6);clear hown hrd hsz ho6 hg6 hat6 hB6 HC5 x0 x1 x2 fx0 fx1 x4l
    go_wp2_with fail
    go_roundw
    case rel=>exact ⟨i+1,j+1,V',A',c',d',by omega,by have:=HJ.out;omega,by go_num,HS6.out⟩
    case measure=>simp [intOf];omega
  · obtain rfl:=tm hi0 hi5
    have e5:((i:Int) == 5)=false:=by simp;omega
    clear t5 tm;obtain ⟨x0,x1,x2⟩:=hch.box.three;have xl:=hch.box.lt;obtain ⟨W2,hW2⟩:∃ W2,W2=wr.alloc (.cells #[.int .i64 (i:Int),.int .i64 0,.int .i64 (0:Int)] 157):=⟨_,rfl⟩;have hb2:Below wr.heap.size wr W2:=by rw [hW2];exact Qah
    obtain ⟨W3,hW3⟩:∃ W3,W3=W2.alloc (.cells #[.int .i64 (i:Int),.int .i64 0,.int .i64 (0:Int)] 157):=⟨_,rfl⟩;have hb3:Below W2.heap.size W2 W3:=by rw [hW3];exact Qah
    have hb23:Below wr.heap.size wr W3:=Zb hb2 hb3;have HC3:=Zh (hch.below hb23);have hz2:W2.heap.size=wr.heap.size+1:=by rw [hW2];simp
    have hrd:Rds W3 3 (some ⟨wr.heap.size+1,0,none⟩) 1 (Qav [((i:Int),0,(0:Int))]):=by rw [hW3,←hz2];exact (Blk.new W2 157 #[.int .i64 (i:Int),.int .i64 0,.int .i64 (0:Int)]).rds rfl
    have hown:=HC3.out.v;have hsz:w.heap.size+1+1+1+1+1+1≤W3.heap.size:=HC3.out.box.lt;have HW3:=Zh hW3;have HW2:=Zh hW2;clear hch hb2 hb3 hb23 hW3 hW2 hz2
    go_wp2_with (at_builtin;rw [←HW2.out,←HW3.out];with_reducible refine Qap rfl (.tmp 26) (.tmp 28) 22 rfl 157 _ 3 24 Qvx underlying22 rfl (by omega) rfl rfl hown hrd (Qdd _) (by omega) (by omega) hsz ?_)
    intro V' c' w4 ho4 hg4 hat4;have hB4:=HC3.out.box.grown hg4 (hown.ne (by omega));clear x0 x1 x2 xl;obtain ⟨x0,x1,x2⟩:=hB4.three;have fx0:=hB4.frozen 0;have fx1:=hB4.frozen 1;have HS4:=Zh (HC3.out.pushV hg4 (by rw [HTV.out];exact ho4) hat4);obtain ⟨W4,hW4⟩:∃ W4,W4=w4.setCell ⟨w.heap.size+1+1+1+1+1,0,none⟩ (.slice V' (i+1) c'):=⟨_,rfl⟩;rw [←hW4] at HS4;have HW4:=Zh hW4;clear hown hrd hsz ho4 hg4 hat4 hB4 HC3 hW4;have x4l:w.heap.size+1+1+1+1+1<w4.heap.size:=by have:=HS4.out.box.lt;rw [HW4.out] at this;simpa [World.setCell] using this
    have hz4:W4.heap.size=w4.heap.size:=by rw [HW4.out];simp [World.setCell]
    obtain ⟨W5,hW5⟩:∃ W5,W5=W4.alloc (.cells #[.int .i64 (j:Int),.int .i64 (i:Int),.int .i64 10] 152):=⟨_,rfl⟩;have hb5:Below W4.heap.size W4 W5:=by rw [hW5];exact Qah
    have HC5:=Zh (HS4.out.below hb5);have hrd:Rds W5 3 (some ⟨w4.heap.size,0,none⟩) 1 (Qav [((j:Int),(i:Int),10)]):=by rw [hW5,←hz4];exact (Blk.new W4 152 #[.int .i64 (j:Int),.int .i64 (i:Int),.int .i64 10]).rds rfl
    have hown:=HC5.out.a;have hsz:w.heap.size+1+1+1+1+1+1≤W5.heap.size:=HC5.out.box.lt;have HW5:=Zh hW5;clear hb5 hW5 hz4
    go_wp2_with (at_builtin;rw [←HW4.out,←HW5.out];with_reducible refine Qap rfl (.tmp 34) (.tmp 39) 23 rfl 152 _ 3 24 infoCA underlying23 rfl (by omega) rfl rfl hown hrd (Qdd _) (by omega) (by omega) hsz ?_)
    intro A' d' w6 ho6 hg6 hat6;have hB6:=HC5.out.box.grown hg6 (hown.ne (by omega));obtain ⟨y0,y1,y2⟩:=hB6.three;have fy1:=hB6.frozen 1;have HS6:=Zh (HC5.out.pushA hg6 (by rw [HTA.out];exact ho6) hat6);clear hown hrd hsz ho6 hg6 hat6 hB6 HC5 x0 x1 x2 fx0 fx1 x4l
    go_wp2_with fail
    go_roundw
    case rel=>exact ⟨i+1,j+1,V',A',c',d',by omega,by have:=HJ.out;omega,by go_num,HS6.out⟩
    case measure=>simp [intOf];omega
section
variable (w:World) (g o:Nat) (N:Qaq) (ls:List (List Int)) (CA:Option Addr) (NC cC:Nat) (cl:List Int)
theorem flat_any (f t:Int)(hg:Qeo w g N)(hok:Qaw N):∃ T W:Int,(0≤T∧T≤1152921504606846976)∧(0≤W∧W≤1152921504606846976)∧Qnx N ls 0 f t (Qfl T W) ∧
 (∀ V,Below w.heap.size w V→Calls prog 71 #[.pointer (some ⟨g,0,none⟩),.int .i64 f,.int .i64 t] V fun e w'=>e=.returned (.int .i64 T)∧Below V.heap.size V w') ∧
 (∀ V,Below w.heap.size w V→Calls prog 72 #[.pointer (some ⟨g,0,none⟩),.int .i64 t] V fun e w'=>e=.returned (.int .i64 W)∧V=w'):=by
 by_cases ht:0≤t∧t<(N.ar.length:Int)
 · obtain ⟨b,rfl⟩:∃ b:Nat,t=(b:Int):=⟨t.toNat,by omega⟩
   obtain ⟨z,hz⟩:∃ z,N.ar[b]?=some z:=⟨_,Zg (by omega)⟩;have hzw:0≤z.2.2∧z.2.2≤1152921504606846976:=by have:=Qdz (hok.arcs z (Zm hz)).w;omega
   by_cases hf:0≤f∧f<(N.ar.length:Int)
   · obtain ⟨a,rfl⟩:∃ a:Nat,f=(a:Int):=⟨f.toNat,by omega⟩
     obtain ⟨y,hy⟩:∃ y,N.ar[a]?=some y:=⟨_,Zg (by omega)⟩;have hb:=Qef hok a b;exact ⟨Qba N a b,z.2.2,⟨by omega,by omega⟩,hzw,Qfz hy hz,fun V hV=>Qlq g a b N y z V (hg.below hV) hy hz,fun V hV=>Qds g b N z V (hg.below hV) hz⟩
   · refine ⟨1152921504606846976,z.2.2,⟨by omega,by omega⟩,hzw,?_,fun V hV=>Qrj g N f b V (hg.below hV) (.inl hf),fun V hV=>Qds g b N z V (hg.below hV) hz⟩
     have e:Qfl 1152921504606846976 z.2.2=1152921504606846976:=by unfold Qfl;split <;> omega
     rw [e];exact Qjy (fun a b' e1 _ h1 _=>absurd ⟨by omega,by omega⟩ hf)
 · refine ⟨1152921504606846976,1152921504606846976,⟨by omega,by omega⟩,⟨by omega,by omega⟩,?_,fun V hV=>Qrj g N f t V (hg.below hV) (.inr ht),fun V hV=>Qsv g N t V (hg.below hV) ht⟩
   have e:Qfl 1152921504606846976 1152921504606846976=1152921504606846976:=by unfold Qfl;split <;> omega
   rw [e];exact Qjy (fun a b' _ e2 _ h2=>absurd ⟨by omega,by omega⟩ ht)
def AprR (lv f t:Int)(r:Ending)(w':World):Prop:=(∃ v,r=.returned (.int .i64 v)∧Qnx N ls lv f t v)∧Below w.heap.size w w'
set_option maxHeartbeats 2000000 in
theorem Qqb (lv f t:Int)(hg:Qeo w g N)(ho:Qgd w o N.ar ls)(hc:RdI w CA NC cl)(hok:Qaw N)(hP:Qay N.vs.length ls)(hA:Qdh N ls cl) (hSm:Qbv (Qae N.ar ls)≤1000000000) :
 Calls prog 26 #[.pointer (some ⟨g,0,none⟩),.pointer (some ⟨o,0,none⟩),.slice CA NC cC,.agg #[.int .i64 lv,.int .i64 f,.int .i64 t]] w (AprR w N ls lv f t):=by
 unfold AprR
 by_cases hlv:lv=0
 · subst hlv
   obtain ⟨T,W,hT,hW,hpr,hTU,hWE⟩:=flat_any w g N ls f t hg hok;have HTU:=Zh hTU;have HWE:=Zh hWE;have HT:=Zh hT;have HW:=Zh hW;have HPR:=Zh hpr;clear hg ho hc hok hP hA hSm hTU hWE hT hW hpr
   go_enter func26,ntmps26
   go_wp2_with fail
   (refine Qaj ?_;intro w1 hw1)
   have HB1:=Zh (show Below w.heap.size w w1 by rw [hw1];exact Qah)
   have HZ:=Zh (show Blk w1 w.heap.size 62 #[.int .i64 0,.int .i64 f,.int .i64 t] by rw [hw1];refine Blk.new' _ _ _ ?_;rfl)
   clear hw1;obtain ⟨z0,z1,z2⟩:=HZ.out.three
   go_wp2_with fail
   clear z0 z1 z2;have HSX:=Zh (show ∀ V,Below w1.heap.size w1 V→V.cell? ⟨w.heap.size,1,none⟩=some (.int .i64 f)∧V.cell? ⟨w.heap.size,2,none⟩=some (.int .i64 t) from fun V hV=>((HZ.out.below hV HZ.out.lt).three).2)
   refine wp_region_held_drew (S:=fun V=>Below w1.heap.size w1 V) (by kernel_rfl) (Zr _ _).drew (fun _=>?_);refine tz 0 29 ?_;refine tz 1 30 ?_;refine tz 2 31 ?_;refine tz 3 32 ?_;refine tz 4 33 ?_;refine tz 6 35 ?_;refine tz 7 36 ?_;refine tz 8 37 ?_;refine Zk 5 (fun K hK=>?_);go_simp;with_reducible refine (HTU.out _ (Zb HB1.out (Zr _ _).drew)).mono ?_
   rintro r w2 ⟨rfl,hb2⟩;have hb2':Below w1.heap.size w1 w2:=(Zr _ _).drew.trans hb2;go_simp;refine hK.out _ _ hb2' (fun _=>?_);clear hK K hb2;refine Zk 9 (fun K hK=>?_);go_simp;with_reducible refine (HWE.out w2 (Zb HB1.out hb2')).mono ?_
   rintro r w' ⟨rfl,rfl⟩;go_simp;refine hK.out _ _ hb2' (fun _=>?_);clear hK K;refine Zk 10 (fun K hK=>?_);go_simp;with_reducible refine (Qdx w2 T W HT.out HW.out).mono ?_
   rintro r w' ⟨rfl,rfl⟩;go_simp;refine hK.out _ _ hb2' (fun _=>?_);clear hK K;refine tz 11 8 ?_;refine Zd ?_
   go_wp2_with fail
   go_ret
   exact ⟨⟨_,rfl,HPR.out⟩,Zb HB1.out hb2'⟩
 have i0:¬lv=0:=hlv
 by_cases hneg:lv<0
 · have HPR:=Zh (show Qnx N ls lv f t 1152921504606846976 from Qjy (fun a b _ _ _ _=>⟨hlv,by rintro ⟨j,l,y,z,e,_⟩;omega⟩))
   clear hg ho hc hok hP hA hSm hlv
   go_enter func26,ntmps26
   go_wp2_with fail
   go_ret
   exact ⟨⟨_,rfl,HPR.out⟩,Qah⟩
 have HLS:=Zh (fun V (hV:Below w.heap.size w V)=>Qjk o N.ar ls V (ho.below hV));obtain ⟨L,hL⟩:∃ L,L=ls.length:=⟨_,rfl⟩;rw [←hL] at HLS;have hL6:L≤6:=by rw [hL];exact hP.l6
 by_cases hhi:lv > (L:Int)
 · have HPR:=Zh (show Qnx N ls lv f t 1152921504606846976 from Qjy (fun a b _ _ _ _=>⟨hlv,by rintro ⟨j,l,y,z,e,hl,_⟩;have:=(Zs hl).1;omega⟩))
   have i1:(L:Int)<lv:=hhi
   clear hg ho hc hok hP hA hSm hlv hL
   go_enter func26,ntmps26
   go_wp2_with fail
   (refine Qaj ?_;intro w1 hw1)
   have HB1:=Zh (show Below w.heap.size w w1 by rw [hw1];exact Qah)
   have HZ:=Zh (show Blk w1 w.heap.size 62 #[.int .i64 lv,.int .i64 f,.int .i64 t] by rw [hw1];refine Blk.new' _ _ _ ?_;rfl)
   clear hw1;obtain ⟨z0,z1,z2⟩:=HZ.out.three
   go_wp2_with fail
   clear z0 z1 z2;have HSX:=Zh (show ∀ V,Below w1.heap.size w1 V→V.cell? ⟨w.heap.size,0,none⟩=some (.int .i64 lv) from fun V hV=>((HZ.out.below hV HZ.out.lt).three).1)
   refine wp_region_held_drew (S:=fun V=>Below w1.heap.size w1 V) (by kernel_rfl) (Zr _ _).drew (fun _=>?_);refine tz 0 24 ?_;refine tz 1 25 ?_;refine tz 2 26 ?_;refine Zk 3 (fun K hK=>?_);go_simp;with_reducible refine (HLS.out _ (Zb HB1.out (Zr _ _).drew)).mono ?_
   rintro r w' ⟨rfl,rfl⟩;go_simp;refine hK.out _ _ (Zr _ _).drew (fun _=>?_);clear hK K;refine tz 4 28 ?_;refine tz 5 23 ?_;refine Zd ?_;clear HSX;obtain ⟨w2,hw2⟩:∃ W,W=w1.drew:=⟨_,rfl⟩;rw [←hw2];have hb2:Below w1.heap.size w1 w2:=by rw [hw2];exact (Zr _ _).drew
   have HZ2:=Zh (HZ.out.below hb2 HZ.out.lt);have HB2:=Zh (Zb HB1.out hb2);clear hw2 hb2
   go_wp2_with fail
   go_ret
   exact ⟨⟨_,rfl,HPR.out⟩,HB2.out⟩
 have i1:¬((L:Int)<lv):=hhi;have HPT:=Zh (fun V (hV:Below w.heap.size w V)=>Qka o N.ar ls V (ho.below hV) (by omega) (fun l hl=>by have:=(hP.lvl l hl).len;have:=hok.lv;omega));rw [←hL] at HPT;have HEN:=Zh (fun V (hV:Below w.heap.size w V) Q cq (hq:RdT V Q L ls)=>Qqz V g N ls Q L cq lv f (hg.below hV) hq hok hP);have HLE:=Zh (fun V (hV:Below w.heap.size w V) Q cq (hq:RdT V Q L ls)=>Qqc V g N ls Q L cq lv t (hg.below hV) hq hok hP)
 by_cases hen:enF N ls lv f<0∨leF N ls lv t≠enF N ls lv f
 · have HPR:=Zh (show Qnx N ls lv f t 1152921504606846976 from Qjy (fun a b e1 e2 _ _=>⟨hlv,Quu hok hP hen a b e1 e2⟩))
   obtain ⟨ev,hev⟩:∃ ev,ev=enF N ls lv f:=⟨_,rfl⟩;obtain ⟨lw,hlw⟩:∃ ev,ev=leF N ls lv t:=⟨_,rfl⟩;rw [←hev,←hlw] at hen;rw [←hev] at HEN;rw [←hlw] at HLE;clear hg ho hc hok hP hA hSm hlv hL hev hlw
   by_cases h0:ev<0
   · clear hen HLE
     go_enter func26,ntmps26
     go_wp2_with fail
     (refine Qaj ?_;intro w1 hw1)
     have HB1:=Zh (show Below w.heap.size w w1 by rw [hw1];exact Qah)
     have HZ:=Zh (show Blk w1 w.heap.size 62 #[.int .i64 lv,.int .i64 f,.int .i64 t] by rw [hw1];refine Blk.new' _ _ _ ?_;rfl)
     clear hw1;obtain ⟨z0,z1,z2⟩:=HZ.out.three
     go_wp2_with fail
     clear z0 z1 z2;have HSX:=Zh (show ∀ V,Below w1.heap.size w1 V→V.cell? ⟨w.heap.size,0,none⟩=some (.int .i64 lv) from fun V hV=>((HZ.out.below hV HZ.out.lt).three).1)
     refine wp_region_held_drew (S:=fun V=>Below w1.heap.size w1 V) (by kernel_rfl) (Zr _ _).drew (fun _=>?_);refine tz 0 24 ?_;refine tz 1 25 ?_;refine tz 2 26 ?_;refine Zk 3 (fun K hK=>?_);go_simp;with_reducible refine (HLS.out _ (Zb HB1.out (Zr _ _).drew)).mono ?_
     rintro r w' ⟨rfl,rfl⟩;go_simp;refine hK.out _ _ (Zr _ _).drew (fun _=>?_);clear hK K;refine tz 4 28 ?_;refine tz 5 23 ?_;refine Zd ?_;clear HSX;obtain ⟨w2,hw2⟩:∃ W,W=w1.drew:=⟨_,rfl⟩;rw [←hw2];have hb2:Below w1.heap.size w1 w2:=by rw [hw2];exact (Zr _ _).drew
     have HZ2:=Zh (HZ.out.below hb2 HZ.out.lt);have HB2:=Zh (Zb HB1.out hb2);clear hw2 hb2
     go_wp2_with fail
     with_reducible refine (HPT.out w2 HB2.out).mono ?_
     rintro r w3 ⟨Q,cq,rfl,hq3,hb3⟩;have HQ3:=Zh (hq3.le (Qbj _ _));have HZ3:=Zh (HZ2.out.below hb3 HZ2.out.lt);have HB3:=Zh (Zb HB2.out hb3);clear hq3 hb3 HPT;obtain ⟨z0,z1,z2⟩:=HZ3.out.three;have zl:=HZ3.out.lt
     go_wp2_with fail
     clear z0 z1 z2 zl
     (refine Qad ?_;intro w4 hw4)
     have hb4:Below w3.heap.size w3 w4:=by rw [hw4];exact Qah
     have HY4:=Zh (show Blk w4 w3.heap.size 87 #[.slice Q L cq] by rw [hw4];refine Blk.new' _ _ _ ?_;rfl)
     clear hw4;have HZ4:=Zh (HZ3.out.below hb4 HZ3.out.lt);have HB4:=Zh (Zb HB3.out hb4);have HQ4:=Zh (HQ3.out.below hb4);clear hb4;with_reducible refine (HEN.out w4 HB4.out Q cq HQ4.out).mono ?_
     rintro r w5 ⟨rfl,hb5⟩;have HZ5:=Zh (HZ4.out.below hb5 HZ4.out.lt);have HY5:=Zh (HY4.out.below hb5 HY4.out.lt);have HB5:=Zh (Zb HB4.out hb5);have HQ5:=Zh (HQ4.out.below hb5);clear hb5 HEN
     go_wp2_with fail
     go_ret
     exact ⟨⟨_,rfl,HPR.out⟩,HB5.out⟩
   · have h1:lw≠ev:=hen.resolve_left h0
     have h2:(lw != ev)=true:=by simpa using h1
     clear hen
     go_enter func26,ntmps26
     go_wp2_with fail
     (refine Qaj ?_;intro w1 hw1)
     have HB1:=Zh (show Below w.heap.size w w1 by rw [hw1];exact Qah)
     have HZ:=Zh (show Blk w1 w.heap.size 62 #[.int .i64 lv,.int .i64 f,.int .i64 t] by rw [hw1];refine Blk.new' _ _ _ ?_;rfl)
     clear hw1;obtain ⟨z0,z1,z2⟩:=HZ.out.three
     go_wp2_with fail
     clear z0 z1 z2;have HSX:=Zh (show ∀ V,Below w1.heap.size w1 V→V.cell? ⟨w.heap.size,0,none⟩=some (.int .i64 lv) from fun V hV=>((HZ.out.below hV HZ.out.lt).three).1)
     refine wp_region_held_drew (S:=fun V=>Below w1.heap.size w1 V) (by kernel_rfl) (Zr _ _).drew (fun _=>?_);refine tz 0 24 ?_;refine tz 1 25 ?_;refine tz 2 26 ?_;refine Zk 3 (fun K hK=>?_);go_simp;with_reducible refine (HLS.out _ (Zb HB1.out (Zr _ _).drew)).mono ?_
     rintro r w' ⟨rfl,rfl⟩;go_simp;refine hK.out _ _ (Zr _ _).drew (fun _=>?_);clear hK K;refine tz 4 28 ?_;refine tz 5 23 ?_;refine Zd ?_;clear HSX;obtain ⟨w2,hw2⟩:∃ W,W=w1.drew:=⟨_,rfl⟩;rw [←hw2];have hb2:Below w1.heap.size w1 w2:=by rw [hw2];exact (Zr _ _).drew
     have HZ2:=Zh (HZ.out.below hb2 HZ.out.lt);have HB2:=Zh (Zb HB1.out hb2);clear hw2 hb2
     go_wp2_with fail
     with_reducible refine (HPT.out w2 HB2.out).mono ?_
     rintro r w3 ⟨Q,cq,rfl,hq3,hb3⟩;have HQ3:=Zh (hq3.le (Qbj _ _));have HZ3:=Zh (HZ2.out.below hb3 HZ2.out.lt);have HB3:=Zh (Zb HB2.out hb3);clear hq3 hb3 HPT;obtain ⟨z0,z1,z2⟩:=HZ3.out.three;have zl:=HZ3.out.lt
     go_wp2_with fail
     clear z0 z1 z2 zl
     (refine Qad ?_;intro w4 hw4)
     have hb4:Below w3.heap.size w3 w4:=by rw [hw4];exact Qah
     have HY4:=Zh (show Blk w4 w3.heap.size 87 #[.slice Q L cq] by rw [hw4];refine Blk.new' _ _ _ ?_;rfl)
     clear hw4;have HZ4:=Zh (HZ3.out.below hb4 HZ3.out.lt);have HB4:=Zh (Zb HB3.out hb4);have HQ4:=Zh (HQ3.out.below hb4);clear hb4;with_reducible refine (HEN.out w4 HB4.out Q cq HQ4.out).mono ?_
     rintro r w5 ⟨rfl,hb5⟩;have HZ5:=Zh (HZ4.out.below hb5 HZ4.out.lt);have HY5:=Zh (HY4.out.below hb5 HY4.out.lt);have HB5:=Zh (Zb HB4.out hb5);have HQ5:=Zh (HQ4.out.below hb5);clear hb5 HEN;obtain ⟨z0,z1,z2⟩:=HZ5.out.three;have y0:=HY5.out.cell 0;simp only [List.getElem?_toArray,List.getElem?_cons_zero] at y0
     go_wp2_with fail
     with_reducible refine (HLE.out w5 HB5.out Q cq HQ5.out).mono ?_
     rintro r w6 ⟨rfl,hb6⟩;have HB6:=Zh (Zb HB5.out hb6);clear HLE z0 z1 z2 y0
     go_wp2_with fail
     go_ret
     exact ⟨⟨_,rfl,HPR.out⟩,HB6.out⟩
 have he0:0≤enF N ls lv f:=by omega
 have hle:leF N ls lv t=enF N ls lv f:=by
  by_cases h1:leF N ls lv t=enF N ls lv f
  · exact h1
  · exact absurd (.inr h1) hen
 rw [hle] at HLE;obtain ⟨a,b,j,l,y,z,rfl,rfl,rfl,hl,hy,hz,g1,g2,g3,g4⟩:=Qwa he0 hle;obtain ⟨cc,p,q,kk,x,hcc,hx,hp,hq,hp2,hq2,hI⟩:=Qom hok hP hl hy hz g1 g2 g3;rw [hcc] at g4;rw [g4] at HEN HLE;obtain ⟨v,hv,hpr⟩:=Qri hA hl hy hz g1 g2 g3 hcc hI;have HPR:=Zh hpr;have HVB:=Zh (hA.cost hok v (Zm hv));have hkn:kk<NC:=by rw [←hc.1];exact (Zs hv).1
 have hNC9:NC≤1000000000:=by rw [←hc.1,hA.1];exact hSm
 have hgl:=Qbl hx;have hla:=hok.la;have HGA:=Zh (fun V (hV:Below w.heap.size w V)=>oGate_ok o j cc N.ar ls l x V (ho.below hV) hl (by omega) hx (by omega));have HPI:=Zh (fun (A1:Option Addr) (n1 c1:Nat) V (hV:RdI V A1 n1 x.1)=>hp▸Qes A1 n1 c1 x.1 (a:Int) V hV (Qeg hx) (by rw [←hV.1];omega));have HPO:=Zh (fun (A1:Option Addr) (n1 c1:Nat) V (hV:RdI V A1 n1 x.2)=>hq▸Qes A1 n1 c1 x.2 (b:Int) V hV (Qec hx) (by rw [←hV.1];omega));have HAT:=Zh (fun V (hV:Below w.heap.size w V)=>hI.hk.symm▸at_ok o j cc p q N.ar ls l x V (ho.below hV) hl hx (Zs hp2).1 (Zs hq2).1 (by omega) (by omega));have HWE:=Zh (fun V (hV:Below w.heap.size w V)=>Qds g b N z V (hg.below hV) hz);have HZW:=Zh (show 0≤z.2.2∧z.2.2≤1152921504606846976 by have:=Qdz (hok.arcs z (Zm hz)).w;omega)
 obtain ⟨cb,co,v',rfl,hv',cv⟩:=hc.at_ hkn;rw [hv] at hv'
 cases hv'
 have HCV:=Zh cv;have k3:(kk:Int)<(NC:Int):=by omega
 have k4:(0:Int)≤(kk:Int):=by omega
 have k5:¬(kk:Int)<0:=by omega
 have k6:¬(NC:Int)≤(kk:Int):=by omega
 have h0:¬(cc:Int)<0:=by omega
 have h2:((cc:Int) != (cc:Int))=false:=by simp
 obtain ⟨lv,hlve⟩:∃ lv:Int,lv=(j:Int)+1:=⟨_,rfl⟩;obtain ⟨f,hfe⟩:∃ f:Int,f=(a:Int):=⟨_,rfl⟩;obtain ⟨t,hte⟩:∃ t:Int,t=(b:Int):=⟨_,rfl⟩;rw [←hlve] at i0 i1 hneg HEN HLE HGA HAT HPR ⊢;rw [←hfe] at HEN HPI HPR ⊢;rw [←hte] at HLE HPO HWE HPR ⊢;clear hg ho hc hok hP hA hSm hlv hL hlve hfe hte hen he0 hle g1 g2 g3 g4 hcc hx hp hq hp2 hq2 hI hv hpr cv hl hy hz hgl hla hkn hhi
 go_enter func26,ntmps26
 go_wp2_with fail
 (refine Qaj ?_;intro w1 hw1)
 have HB1:=Zh (show Below w.heap.size w w1 by rw [hw1];exact Qah)
 have HZ:=Zh (show Blk w1 w.heap.size 62 #[.int .i64 lv,.int .i64 f,.int .i64 t] by rw [hw1];refine Blk.new' _ _ _ ?_;rfl)
 clear hw1;obtain ⟨z0,z1,z2⟩:=HZ.out.three
 go_wp2_with fail
 clear z0 z1 z2;have HSX:=Zh (show ∀ V,Below w1.heap.size w1 V→V.cell? ⟨w.heap.size,0,none⟩=some (.int .i64 lv) from fun V hV=>((HZ.out.below hV HZ.out.lt).three).1)
 refine wp_region_held_drew (S:=fun V=>Below w1.heap.size w1 V) (by kernel_rfl) (Zr _ _).drew (fun _=>?_);refine tz 0 24 ?_;refine tz 1 25 ?_;refine tz 2 26 ?_;refine Zk 3 (fun K hK=>?_);go_simp;with_reducible refine (HLS.out _ (Zb HB1.out (Zr _ _).drew)).mono ?_
 rintro r w' ⟨rfl,rfl⟩;go_simp;refine hK.out _ _ (Zr _ _).drew (fun _=>?_);clear hK K;refine tz 4 28 ?_;refine tz 5 23 ?_;refine Zd ?_;clear HSX;obtain ⟨w2,hw2⟩:∃ W,W=w1.drew:=⟨_,rfl⟩;rw [←hw2];have hb2:Below w1.heap.size w1 w2:=by rw [hw2];exact (Zr _ _).drew
 have HZ2:=Zh (HZ.out.below hb2 HZ.out.lt);have HB2:=Zh (Zb HB1.out hb2);clear hw2 hb2
 go_wp2_with fail
 with_reducible refine (HPT.out w2 HB2.out).mono ?_
 rintro r w3 ⟨Q,cq,rfl,hq3,hb3⟩;have HQ3:=Zh (hq3.le (Qbj _ _));have HZ3:=Zh (HZ2.out.below hb3 HZ2.out.lt);have HB3:=Zh (Zb HB2.out hb3);clear hq3 hb3 HPT;obtain ⟨z0,z1,z2⟩:=HZ3.out.three;have zl:=HZ3.out.lt
 go_wp2_with fail
 clear z0 z1 z2 zl
 (refine Qad ?_;intro w4 hw4)
 have hb4:Below w3.heap.size w3 w4:=by rw [hw4];exact Qah
 have HY4:=Zh (show Blk w4 w3.heap.size 87 #[.slice Q L cq] by rw [hw4];refine Blk.new' _ _ _ ?_;rfl)
 clear hw4;have HZ4:=Zh (HZ3.out.below hb4 HZ3.out.lt);have HB4:=Zh (Zb HB3.out hb4);have HQ4:=Zh (HQ3.out.below hb4);clear hb4;with_reducible refine (HEN.out w4 HB4.out Q cq HQ4.out).mono ?_
 rintro r w5 ⟨rfl,hb5⟩;have HZ5:=Zh (HZ4.out.below hb5 HZ4.out.lt);have HY5:=Zh (HY4.out.below hb5 HY4.out.lt);have HB5:=Zh (Zb HB4.out hb5);have HQ5:=Zh (HQ4.out.below hb5);clear hb5 HEN;obtain ⟨z0,z1,z2⟩:=HZ5.out.three;have y0:=HY5.out.cell 0;simp only [List.getElem?_toArray,List.getElem?_cons_zero] at y0
 go_wp2_with fail
 with_reducible refine (HLE.out w5 HB5.out Q cq HQ5.out).mono ?_
 rintro r w6 ⟨rfl,hb6⟩;have HB6:=Zh (Zb HB5.out hb6);clear HLE z0 z1 z2 y0;have HZ6:=Zh (HZ5.out.below hb6 HZ5.out.lt);clear hb6;obtain ⟨z0,z1,z2⟩:=HZ6.out.three
 go_wp2_with fail
 with_reducible refine (HGA.out w6 HB6.out).mono ?_
 rintro r w7 ⟨A1,n1,c1,A2,n2,c2,rfl,h71,h72,hb7⟩;have HZ7:=Zh (HZ6.out.below hb7 HZ6.out.lt);have HB7:=Zh (Zb HB6.out hb7);clear hb7 HGA z0 z1 z2
 go_wp2_with fail
 (refine Qaj ?_;intro w8 hw8)
 have hb8:Below w7.heap.size w7 w8:=by rw [hw8];exact Qah
 have hG8:Blk w8 w7.heap.size 164 #[.slice A1 n1 c1,.slice A2 n2 c2]:=by rw [hw8];refine Blk.new' _ _ _ ?_;rfl
 clear hw8;have HZ8:=Zh (HZ7.out.below hb8 HZ7.out.lt);have HB8:=Zh (Zb HB7.out hb8);have HI8:=Zh (h71.below hb8);have HJ8:=Zh (h72.below hb8)
 have HSX:=Zh (show ∀ V,Below w8.heap.size w8 V→V.cell? ⟨w7.heap.size,0,none⟩=some (.slice A1 n1 c1)∧V.cell? ⟨w7.heap.size,1,none⟩=some (.slice A2 n2 c2)∧V.cell? ⟨w.heap.size,1,none⟩=some (.int .i64 f)∧V.cell? ⟨w.heap.size,2,none⟩=some (.int .i64 t) from fun V hV=>by
  have hG':=hG8.below hV hG8.lt;have hZ':=(HZ8.out.below hV HZ8.out.lt).three;exact ⟨Zq hG',Zq hG',hZ'.2⟩)
 clear hb8 h71 h72 hG8
 go_wp2_with fail
 refine wp_region_held_drew (S:=fun V=>Below w8.heap.size w8 V) (by kernel_rfl) (Zr _ _).drew (fun _=>?_);refine tz 0 67 ?_;refine tz 1 68 ?_;refine tz 2 69 ?_;refine tz 3 70 ?_;refine tz 5 72 ?_;refine tz 6 73 ?_;refine tz 7 74 ?_;refine tz 8 75 ?_;refine Zk 4 (fun K hK=>?_);go_simp;with_reducible refine (HPI.out A1 n1 c1 _ (HI8.out.below (Zr _ _).drew)).mono ?_
 rintro r w9 ⟨rfl,hb9⟩;have hb9':Below w8.heap.size w8 w9:=(Zr _ _).drew.trans hb9;go_simp;refine hK.out _ _ hb9' (fun _=>?_);clear hK K hb9;refine Zk 9 (fun K hK=>?_);go_simp;with_reducible refine (HPO.out A2 n2 c2 _ (HJ8.out.below hb9')).mono ?_
 rintro r wa ⟨rfl,hba⟩;have hba':Below w8.heap.size w8 wa:=Zb hb9' hba;go_simp;refine hK.out _ _ hba' (fun _=>?_);clear hK K hba hb9';refine tz 10 12 ?_;refine tz 11 13 ?_;refine Zd ?_;clear HSX;have HZa:=Zh (HZ8.out.below hba' HZ8.out.lt);have HBa:=Zh (Zb HB8.out hba');clear hba';obtain ⟨z0,z1,z2⟩:=HZa.out.three
 go_wp2_with fail
 with_reducible refine (HAT.out wa HBa.out).mono ?_
 rintro r wb ⟨rfl,hbb⟩;have HZb:=Zh (HZa.out.below hbb HZa.out.lt);have HBb:=Zh (Zb HBa.out hbb);clear hbb z0 z1 z2
 go_wp2_with fail
 have HSX:=Zh (show ∀ V,Below wb.heap.size wb V→V.cell? ⟨w.heap.size,2,none⟩=some (.int .i64 t)∧V.cell? ⟨cb,co+kk,none⟩=some (.int .i64 v) from fun V hV=>⟨((HZb.out.below hV HZb.out.lt).three).2.2,Zc (Zb HBb.out hV) (Zn _) HCV.out⟩)
 refine wp_region_held_drew (S:=fun V=>Below wb.heap.size wb V) (by kernel_rfl) (Zr _ _).drew (fun _=>?_);refine tz 0 92 ?_;refine tz 1 93 ?_;refine tz 2 94 ?_;refine tz 3 95 ?_;refine tz 4 96 ?_;refine tz 5 97 ?_;refine tz 6 98 ?_;refine Zk 7 (fun K hK=>?_);go_simp;with_reducible refine (HWE.out _ (Zb HBb.out (Zr _ _).drew)).mono ?_
 rintro r w' ⟨rfl,rfl⟩;go_simp;refine hK.out _ _ (Zr _ _).drew (fun _=>?_);clear hK K;refine Zk 8 (fun K hK=>?_);go_simp;with_reducible refine (Qdx _ v z.2.2 HVB.out HZW.out).mono ?_
 rintro r w' ⟨rfl,rfl⟩;go_simp;refine hK.out _ _ (Zr _ _).drew (fun _=>?_);clear hK K;refine tz 9 8 ?_;refine Zd ?_
 go_wp2_with fail
 go_ret
 exact ⟨⟨_,rfl,HPR.out⟩,HBb.out.drew⟩
end
end Go.Proofs.YteaoiabikjnkeaaGreatDoor
