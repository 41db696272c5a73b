/- Parts of the proof: AsW. -/
import Derived.Test.YteaoiabikjnkeaaGreatDoorR1
import Derived.Test.YteaoiabikjnkeaaGreatDoorR36
namespace Go.Proofs.YteaoiabikjnkeaaGreatDoor
open Go.RowKit Go.Proofs.Tryz
attribute [local go_sem ↓] Go.wp_at_zero Go.wp_at_succ
theorem Qxj:(Tryz.prog.info? 157).map (fun i=>(i.zero,i.size,i.bytes))=some (some (.agg #[.int .i64 0,.int .i64 0,.int .i64 0]),3,24):=by kernel_rfl
theorem infoCA:(Tryz.prog.info? 152).map (fun i=>(i.zero,i.size,i.bytes))=some (some (.agg #[.int .i64 0,.int .i64 0,.int .i64 0]),3,24):=by kernel_rfl
structure ChS (g:Nat) (c3:Value) (w1 W:World) (i j:Nat) (V A:Option Addr) (cv ca:Nat):Prop where
 bel:Below g w1 W
 box:Blk W g 26 #[.slice V i cv,.slice A j ca,c3]
 v:Own W (g+1) 157 3 V i cv (Qat (Qax.vs.take i))
 a:Own W (g+1) 152 3 A j ca (Qat (Qax.ar.take j))
 d:∀ b,Qab V=some b→Qab A≠some b
theorem ChS.below {g i j cv ca:Nat}{c3:Value}{w1 W W':World}{V A:Option Addr}(h:ChS g c3 w1 W i j V A cv ca)(hb:Below W.heap.size W W'):ChS g c3 w1 W' i j V A cv ca :=
 ⟨h.bel.trans (hb.mono (Nat.le_of_lt h.box.lt)),h.box.below hb h.box.lt,h.v.below hb,h.a.below hb,h.d⟩
theorem ChS.pushV {g i j cv ca c':Nat}{c3:Value}{w1 W W':World}{V A V':Option Addr}(h:ChS g c3 w1 W i j V A cv ca) (hg:W.grownBy W' (Qab V)) (ho:Own W' (g+1) 157 3 V' (i+1) c' (Qat (Qax.vs.take (i+1)))) (hat:Qab V'=Qab V∨Qab V'=some W.heap.size) :
 ChS g c3 w1 (W'.setCell ⟨g,0,none⟩ (.slice V' (i+1) c')) (i+1) j V' A c' ca:=by
 have hne:Qab V≠some g:=fun e=>by have:=(h.v.lt g e).1;omega
 have hnA:Qab A≠some g:=fun e=>by have:=(h.a.lt g e).1;omega
 have hnV:Qab V'≠some g:=fun e=>by have:=(ho.lt g e).1;omega
 have hb:=h.box.grown hg hne;refine ⟨(Bel.grownOwn h.bel hg (h.v.mono (Nat.le_succ g)) (Nat.le_of_lt h.box.lt)).setCell (by simp only;omega) _,?_,ho.far (Qaa _ _ _ _) (.inr hnV),(h.a.far hg ?_).far (Qaa _ _ _ _) (.inr hnA),?_⟩
 · have:=hb.set_ 0 (.slice V' (i+1) c')
   simpa using this
 · cases hA:Qab A with
   | none=>exact .inl rfl
   | some b=>exact .inr (fun e=>h.d b e.symm hA)
 · intro b hb hA
   rcases hat with e|e
   · exact h.d b (by rw [←e];exact hb) hA
   · have:=(h.a.lt b hA).2
     rw [e] at hb
     injection hb with hb
     omega
theorem ChS.pushA {g i j cv ca c':Nat}{c3:Value}{w1 W W':World}{V A A':Option Addr}(h:ChS g c3 w1 W i j V A cv ca) (hg:W.grownBy W' (Qab A)) (ho:Own W' (g+1) 152 3 A' (j+1) c' (Qat (Qax.ar.take (j+1)))) (hat:Qab A'=Qab A∨Qab A'=some W.heap.size) :
 ChS g c3 w1 (W'.setCell ⟨g,1,none⟩ (.slice A' (j+1) c')) i (j+1) V A' cv c':=by
 have hne:Qab A≠some g:=fun e=>by have:=(h.a.lt g e).1;omega
 have hnV:Qab V≠some g:=fun e=>by have:=(h.v.lt g e).1;omega
 have hnA:Qab A'≠some g:=fun e=>by have:=(ho.lt g e).1;omega
 have hb:=h.box.grown hg hne;refine ⟨(Bel.grownOwn h.bel hg (h.a.mono (Nat.le_succ g)) (Nat.le_of_lt h.box.lt)).setCell (by simp only;omega) _,?_,(h.v.far hg ?_).far (Qaa _ _ _ _) (.inr hnV),ho.far (Qaa _ _ _ _) (.inr hnA),?_⟩
 · have:=hb.set_ 1 (.slice A' (j+1) c')
   simpa using this
 · cases hV:Qab V with
   | none=>exact .inl rfl
   | some b=>exact .inr (fun e=>h.d b hV e.symm)
 · intro b hV hb
   rcases hat with e|e
   · exact h.d b hV (by rw [←e];exact hb)
   · have:=(h.v.lt b hV).2
     rw [e] at hb
     injection hb with hb
     omega
theorem ch_vs (i:Nat)(h:i<6):∃ ty:Int,Qax.vs[i]?=some ((i:Int),0,ty)∧(i=0→ty=1)∧(i=5→ty=2)∧(i≠0→i≠5→ty=0):=by
 rcases (by omega:i=0∨i=1∨i=2∨i=3∨i=4∨i=5) with rfl|rfl|rfl|rfl|rfl|rfl
 · exact ⟨1,rfl,by simp,by simp,by simp⟩
 · exact ⟨0,rfl,by simp,by simp,by simp⟩
 · exact ⟨0,rfl,by simp,by simp,by simp⟩
 · exact ⟨0,rfl,by simp,by simp,by simp⟩
 · exact ⟨0,rfl,by simp,by simp,by simp⟩
 · exact ⟨2,rfl,by simp,by simp,by simp⟩
theorem ch_ar (j:Nat)(h:j<5):Qax.ar[j]?=some ((j:Int),((j+1:Nat):Int),10):=by
 rcases (by omega:j=0∨j=1∨j=2∨j=3∨j=4) with rfl|rfl|rfl|rfl|rfl <;> rfl
theorem ch_takeV {i:Nat}{x:Tri} (h:Qax.vs[i]?=some x):Qat (Qax.vs.take (i+1))=Qat (Qax.vs.take i) ++Qat [x]:=by rw [List.take_add_one,h,←Qdv];rfl
theorem ch_takeA {i:Nat}{x:Tri} (h:Qax.ar[i]?=some x):Qat (Qax.ar.take (i+1))=Qat (Qax.ar.take i) ++Qat [x]:=by rw [List.take_add_one,h,←Qdv];rfl
def ChnP (w:World)(r:Ending)(w':World):Prop :=
 (∃ (A B C Q:Option Addr) (a b c q:Nat),r=.returned (.tuple #[.agg #[.slice A 6 a,.slice B 5 b,.slice C 3 c],.agg #[.slice Q 1 q]])∧Qcj w' A B C 6 5 3 Qax∧RdT w' Q 1 Qdo)∧Below w.heap.size w w'
set_option maxRecDepth 20000 in
set_option maxHeartbeats 4000000 in
theorem Qse (w:World):Calls prog 36 #[] w (ChnP w):=by
 unfold ChnP
 go_enter func36,ntmps36
 go_wp2_with fail
 (refine Qak ?_;intro w1 hw1)
 have HB1:=Zh (show Below w.heap.size w w1 by rw [hw1];exact Qah)
 have HZ1:=Zh (show w1.heap.size=w.heap.size+1+1+1+1+1+1 by rw [hw1];simp)
 have HC0:=Zh (show Blk w1 w.heap.size 26 #[.slice none 0 0,.slice none 0 0,.slice none 0 0] by rw [hw1];exact Qbg)
 have HC1:=Zh (show Blk w1 (w.heap.size+1) 29 #[.slice none 0 0] by rw [hw1];exact Qbg)
 have HC2:=Zh (show Blk w1 (w.heap.size+1+1) 2 #[.int .i64 1] by rw [hw1];exact Qbg)
 have HC4:=Zh (show Blk w1 (w.heap.size+1+1+1+1) 155 #[.int .i64 1,.int .i64 1,.slice (some ⟨w.heap.size+1+1,0,none⟩) 1 1,.int .i64 0,.int .i64 1,.slice none 0 0,.int .i64 1,.int .i64 0,.slice none 0 0] by rw [hw1];exact Qbg)
 have hN:Blk w1 (w.heap.size+1+1+1+1+1) 26 #[.slice none 0 0,.slice none 0 0,.slice (some ⟨w.heap.size+1+1+1+1,0,none⟩) 3 3]:=by rw [hw1];exact Qbg
 have HST:=Zh (show ChS (w.heap.size+1+1+1+1+1) (.slice (some ⟨w.heap.size+1+1+1+1,0,none⟩) 3 3) w1 w1 0 0 none none 0 0 from ⟨Zr _ _,hN,Own.nil _ _ _ _,Own.nil _ _ _ _,fun b hb=>by cases hb⟩)
 clear hw1 hN
 go_loopw [4] (fun q W=>∃ (i j:Nat) (V A:Option Addr) (cv ca:Nat),i≤6∧j=i-1∧q=.int .i64 i∧ChS (w.heap.size+1+1+1+1+1) (.slice (some ⟨w.heap.size+1+1+1+1,0,none⟩) 3 3) w1 W i j V A cv ca) (fun q _=>7-(intOf q).toNat)
 case atStart=>exact ⟨0,0,none,none,0,0,by omega,rfl,rfl,HST.out⟩
 case round =>
  obtain ⟨i,j,V,A,cv,ca,hi,hj,rfl,hch⟩:=hrel;have HCH:=Zh hch
  by_cases hlt:i<6
  rotate_left
  · obtain rfl:i=6:=by omega
    obtain rfl:j=5:=by omega
    clear hi hj hlt;have hbx:=hch.box;have x0:wr.cell? ⟨w.heap.size+1+1+1+1+1,0,none⟩=some (.slice V 6 cv):=Zq hbx;have x1:wr.cell? ⟨w.heap.size+1+1+1+1+1,1,none⟩=some (.slice A 5 ca):=Zq hbx;have x2:wr.cell? ⟨w.heap.size+1+1+1+1+1,2,none⟩=some (.slice (some ⟨w.heap.size+1+1+1+1,0,none⟩) 3 3):=Zq hbx;have hz1:=HZ1.out;have hzr:w.heap.size+1+1+1+1+1<wr.heap.size:=hbx.lt
    have hC0:Blk wr w.heap.size 26 #[.slice none 0 0,.slice none 0 0,.slice none 0 0]:=HC0.out.below hch.bel (by omega);have hC1:Blk wr (w.heap.size+1) 29 #[.slice none 0 0]:=HC1.out.below hch.bel (by omega);have hC2:=HC2.out.below hch.bel (by omega);have hC4:=HC4.out.below hch.bel (by omega);obtain ⟨W6,hW6⟩:∃ W6,W6=(((wr.setCell ⟨w.heap.size,0,none⟩ (.slice V 6 cv)).setCell ⟨w.heap.size,1,none⟩ (.slice A 5 ca)).setCell ⟨w.heap.size,2,none⟩ (.slice (some ⟨w.heap.size+1+1+1+1,0,none⟩) 3 3)).setCell ⟨w.heap.size+1,0,none⟩ (.slice (some ⟨wr.heap.size+1,0,none⟩) 1 1):=⟨_,rfl⟩;have hz6:W6.heap.size=wr.heap.size:=by rw [hW6];simp [World.setCell]
    have HC0':=Zh (show Blk W6 w.heap.size 26 #[.slice V 6 cv,.slice A 5 ca,.slice (some ⟨w.heap.size+1+1+1+1,0,none⟩) 3 3] by
     have h0:=((hC0.set_ 0 (.slice V 6 cv)).set_ 1 (.slice A 5 ca)).set_ 2 (.slice (some ⟨w.heap.size+1+1+1+1,0,none⟩) 3 3);rw [hW6];refine Blk.far_ (by simpa using h0) ?_ _;omega)
    have HC1':=Zh (show Blk W6 (w.heap.size+1) 29 #[.slice (some ⟨wr.heap.size+1,0,none⟩) 1 1] by
     have h1:Blk (((wr.setCell ⟨w.heap.size,0,none⟩ (.slice V 6 cv)).setCell ⟨w.heap.size,1,none⟩ (.slice A 5 ca)).setCell ⟨w.heap.size,2,none⟩ (.slice (some ⟨w.heap.size+1+1+1+1,0,none⟩) 3 3)) (w.heap.size+1) 29 #[.slice none 0 0]:=Blk.far_ (Blk.far_ (Blk.far_ hC1 (by omega) _) (by omega) _) (by omega) _;rw [hW6]
     simpa using h1.set_ 0 (.slice (some ⟨wr.heap.size+1,0,none⟩) 1 1))
    have HC2':=Zh (show Blk W6 (w.heap.size+1+1) 2 #[.int .i64 1] by rw [hW6];exact Blk.far_ (Blk.far_ (Blk.far_ (Blk.far_ hC2 (by omega) _) (by omega) _) (by omega) _) (by omega) _)
    have HC4':=Zh (show Blk W6 (w.heap.size+1+1+1+1) 155 #[.int .i64 1,.int .i64 1,.slice (some ⟨w.heap.size+1+1,0,none⟩) 1 1,.int .i64 0,.int .i64 1,.slice none 0 0,.int .i64 1,.int .i64 0,.slice none 0 0] by rw [hW6];exact Blk.far_ (Blk.far_ (Blk.far_ (Blk.far_ hC4 (by omega) _) (by omega) _) (by omega) _) (by omega) _)
    have HV:=Zh (show Rd3 W6 V 6 Qax.vs by
     have h1:=hch.v;have:=((((h1.far (Qaa _ w.heap.size 0 (.slice V 6 cv)) (.inr (h1.ne (by omega)))).far (Qaa _ w.heap.size 1 (.slice A 5 ca)) (.inr (h1.ne (by omega)))).far (Qaa _ w.heap.size 2 (.slice (some ⟨w.heap.size+1+1+1+1,0,none⟩) 3 3)) (.inr (h1.ne (by omega)))).far (Qaa _ (w.heap.size+1) 0 (.slice (some ⟨wr.heap.size+1,0,none⟩) 1 1)) (.inr (h1.ne (by omega)))).rds.rd3;rw [hW6];exact this)
    have HA:=Zh (show Rd3 W6 A 5 Qax.ar by
     have h1:=hch.a;have:=((((h1.far (Qaa _ w.heap.size 0 (.slice V 6 cv)) (.inr (h1.ne (by omega)))).far (Qaa _ w.heap.size 1 (.slice A 5 ca)) (.inr (h1.ne (by omega)))).far (Qaa _ w.heap.size 2 (.slice (some ⟨w.heap.size+1+1+1+1,0,none⟩) 3 3)) (.inr (h1.ne (by omega)))).far (Qaa _ (w.heap.size+1) 0 (.slice (some ⟨wr.heap.size+1,0,none⟩) 1 1)) (.inr (h1.ne (by omega)))).rds.rd3;rw [hW6];exact this)
    have hbr:Below w.heap.size w wr:=HB1.out.trans (hch.bel.mono (by omega));have HB6:=Zh (show Below w.heap.size w W6 by rw [hW6];exact ((((hbr.setCell (by simp only;omega) _).setCell (by simp only;omega) _).setCell (by simp only;omega) _).setCell (by simp only;omega) _))
    have HW6:=Zh hW6;have HZ6:=Zh hz6;obtain ⟨k0,k1,k2⟩:=hC0.three;have fk0:=hC0.frozen 0;have fk1:=hC0.frozen 1;have fk2:=hC0.frozen 2;have p0:=hC1.cell 0;simp only [List.getElem?_toArray,List.getElem?_cons_zero] at p0;have fp0:=hC1.frozen 0;have kl:=hC0.lt;have pl:=hC1.lt;have xl:=hbx.lt;clear hch hbx hC0 hC1 hC2 hC4 hW6 hz6 hbr
    go_wp2_with fail
    rw [←HW6.out]
    (refine Qef ?_;intro Wf hWf)
    have hbf:Below W6.heap.size W6 Wf:=by rw [hWf];exact Qah
    have h1:Blk Wf wr.heap.size 3 #[.int .i64 0,.int .i64 0,.int .i64 1,.int .i64 1,.int .i64 2,.int .i64 2]:=by rw [hWf,←HZ6.out];exact Qbg
    have h2:Blk Wf (wr.heap.size+1) 67 #[.slice (some ⟨wr.heap.size,0,none⟩) 6 6]:=by rw [hWf,←HZ6.out];exact Qbg
    have hB0:=HC0'.out.below hbf HC0'.out.lt;have hB1:=HC1'.out.below hbf HC1'.out.lt;have h3:=HC2'.out.below hbf HC2'.out.lt;have h4:=HC4'.out.below hbf HC4'.out.lt;obtain ⟨c0,c1,c2⟩:=hB0.three;have d0:=hB1.cell 0;simp only [List.getElem?_toArray,List.getElem?_cons_zero] at d0
    have HVf:=Zh (show Qcj Wf V A (some ⟨w.heap.size+1+1+1+1,0,none⟩) 6 5 3 Qax from by
     refine ⟨HV.out.below hbf,HA.out.below hbf,rfl,fun i t ht=>⟨w.heap.size+1+1+1+1,0,rfl,?_⟩⟩
     match i,ht with
     | 0,ht =>
      cases ht
      exact ⟨Zq h4,Zq h4,some ⟨w.heap.size+1+1,0,none⟩,1,1,Zq h4,Rds.rdI (l:=[1]) (h3.rds rfl),Zn _,by omega⟩
     | 1,ht =>
      cases ht
      exact ⟨Zq h4,Zq h4,none,0,0,Zq h4,⟨rfl,fun j x hx=>by simp at hx⟩,Zn _,by omega⟩
     | 2,ht =>
      cases ht
      exact ⟨Zq h4,Zq h4,none,0,0,Zq h4,⟨rfl,fun j x hx=>by simp at hx⟩,Zn _,by omega⟩
     | k+3,ht=>simp [Qax] at ht)
    have HTf:=Zh (show RdT Wf (some ⟨wr.heap.size+1,0,none⟩) 1 Qdo from by
     refine ⟨rfl,fun i l hl=>?_⟩
     match i,hl with
     | 0,hl =>
      cases hl
      exact ⟨wr.heap.size+1,0,some ⟨wr.heap.size,0,none⟩,6,6,rfl,Zq h2,Rds.rdI (l:=[0,0,1,1,2,2]) (h1.rds rfl),Zn _,by omega⟩
     | k+1,hl=>simp [Qdo] at hl)
    have HBf:=Zh (Zb HB6.out hbf);refine bodyPost_ret (v:=.tuple #[.agg #[.slice V 6 cv,.slice A 5 ca,.slice (some ⟨w.heap.size+1+1+1+1,0,none⟩) 3 3],.agg #[.slice (some ⟨wr.heap.size+1,0,none⟩) 1 1]]) (by simp [results,results36,go_sem,c0,c1,c2,d0]) rfl ?_;exact ⟨⟨_,_,_,_,_,_,_,_,rfl,HVf.out,HTf.out⟩,HBf.out⟩
  have HJ:=Zh hj;obtain ⟨ty,hty,t0,t5,tm⟩:=ch_vs i hlt;have HTY:=Zh hty;have HTV:=Zh (ch_takeV hty);clear hty
  by_cases hi0:i=0
  · obtain rfl:=t0 hi0
    have hj0:j=0:=by omega
    have e0:((i:Int) == 0)=true:=by simp [hi0]
    have e5:((i:Int) == 5)=false:=by simp [hi0]
    have e6:¬(0:Int)<(i:Int):=by omega
    have HI0:=Zh hi0;have HJ0:=Zh hj0;clear t0 t5 tm hi0 hj0 hj;obtain ⟨x0,x1,x2⟩:=hch.box.three;have xl:=hch.box.lt;obtain ⟨W2,hW2⟩:∃ W2,W2=wr.alloc (.cells #[.int .i64 (i:Int),.int .i64 0,.int .i64 (1:Int)] 157):=⟨_,rfl⟩;have hb2:Below wr.heap.size wr W2:=by rw [hW2];exact Qah
    obtain ⟨W3,hW3⟩:∃ W3,W3=W2.alloc (.cells #[.int .i64 (i:Int),.int .i64 0,.int .i64 (1:Int)] 157):=⟨_,rfl⟩;have hb3:Below W2.heap.size W2 W3:=by rw [hW3];exact Qah
    have hb23:Below wr.heap.size wr W3:=Zb hb2 hb3;have HC3:=Zh (hch.below hb23);have hz2:W2.heap.size=wr.heap.size+1:=by rw [hW2];simp
    have hrd:Rds W3 3 (some ⟨wr.heap.size+1,0,none⟩) 1 (Qat [((i:Int),0,(1:Int))]):=by rw [hW3,←hz2];exact (Blk.new W2 157 #[.int .i64 (i:Int),.int .i64 0,.int .i64 (1:Int)]).rds rfl
    have hown:=HC3.out.v;have hsz:w.heap.size+1+1+1+1+1+1≤W3.heap.size:=HC3.out.box.lt;have HW3:=Zh hW3;have HW2:=Zh hW2;clear hch hb2 hb3 hb23 hW3 hW2 hz2
    go_wp2_with (at_builtin;rw [←HW2.out,←HW3.out];with_reducible refine Qan rfl (.tmp 26) (.tmp 28) 22 rfl 157 _ 3 24 Qxj underlying22 rfl (by omega) rfl rfl hown hrd (Qde _) (by omega) (by omega) hsz ?_)
    intro V' c' w4 ho4 hg4 hat4;have hB4:=HC3.out.box.grown hg4 (hown.ne (by omega));clear x0 x1 x2 xl;obtain ⟨x0,x1,x2⟩:=hB4.three;have fx0:=hB4.frozen 0;have fx1:=hB4.frozen 1;have HS4:=Zh (HC3.out.pushV hg4 (by rw [HTV.out];exact ho4) hat4);obtain ⟨W4,hW4⟩:∃ W4,W4=w4.setCell ⟨w.heap.size+1+1+1+1+1,0,none⟩ (.slice V' (i+1) c'):=⟨_,rfl⟩;rw [←hW4] at HS4;have HW4:=Zh hW4;clear hown hrd hsz ho4 hg4 hat4 hB4 HC3 hW4
    go_wp2_with fail
    rw [←HW4.out]
    go_roundw
    case rel=>exact ⟨i+1,j,V',A,c',ca,by omega,by have:=HI0.out;have:=HJ0.out;omega,by go_num,HS4.out⟩
    case measure=>simp [intOf];omega
  have e0:((i:Int) == 0)=false:=by simpa using hi0
  have e6:(0:Int)<(i:Int):=by omega
  have eij:(i:Int)-1=(j:Int):=by omega
  have wl:IntKind.i64.wrap (j:Int)=(j:Int):=IntWalk.i64_in _ (by omega);have hAR:=ch_ar j (by omega);rw [show ((j+1:Nat):Int)=(i:Int) by omega] at hAR
  have HTA:=Zh (ch_takeA hAR);clear hAR t0 hj
  by_cases hi5:i=5
  · obtain rfl:=t5 hi5
    have e5:((i:Int) == 5)=true:=by simp [hi5]
    clear t5 tm hi5;obtain ⟨x0,x1,x2⟩:=hch.box.three;have xl:=hch.box.lt;obtain ⟨W2,hW2⟩:∃ W2,W2=wr.alloc (.cells #[.int .i64 (i:Int),.int .i64 0,.int .i64 (2:Int)] 157):=⟨_,rfl⟩;have hb2:Below wr.heap.size wr W2:=by rw [hW2];exact Qah
    obtain ⟨W3,hW3⟩:∃ W3,W3=W2.alloc (.cells #[.int .i64 (i:Int),.int .i64 0,.int .i64 (2:Int)] 157):=⟨_,rfl⟩;have hb3:Below W2.heap.size W2 W3:=by rw [hW3];exact Qah
    have hb23:Below wr.heap.size wr W3:=Zb hb2 hb3;have HC3:=Zh (hch.below hb23);have hz2:W2.heap.size=wr.heap.size+1:=by rw [hW2];simp
    have hrd:Rds W3 3 (some ⟨wr.heap.size+1,0,none⟩) 1 (Qat [((i:Int),0,(2:Int))]):=by rw [hW3,←hz2];exact (Blk.new W2 157 #[.int .i64 (i:Int),.int .i64 0,.int .i64 (2:Int)]).rds rfl
    have hown:=HC3.out.v;have hsz:w.heap.size+1+1+1+1+1+1≤W3.heap.size:=HC3.out.box.lt;have HW3:=Zh hW3;have HW2:=Zh hW2;clear hch hb2 hb3 hb23 hW3 hW2 hz2
    go_wp2_with (at_builtin;rw [←HW2.out,←HW3.out];with_reducible refine Qan rfl (.tmp 26) (.tmp 28) 22 rfl 157 _ 3 24 Qxj underlying22 rfl (by omega) rfl rfl hown hrd (Qde _) (by omega) (by omega) hsz ?_)
    intro V' c' w4 ho4 hg4 hat4;have hB4:=HC3.out.box.grown hg4 (hown.ne (by omega));clear x0 x1 x2 xl;obtain ⟨x0,x1,x2⟩:=hB4.three;have fx0:=hB4.frozen 0;have fx1:=hB4.frozen 1;have HS4:=Zh (HC3.out.pushV hg4 (by rw [HTV.out];exact ho4) hat4);obtain ⟨W4,hW4⟩:∃ W4,W4=w4.setCell ⟨w.heap.size+1+1+1+1+1,0,none⟩ (.slice V' (i+1) c'):=⟨_,rfl⟩;rw [←hW4] at HS4;have HW4:=Zh hW4;clear hown hrd hsz ho4 hg4 hat4 hB4 HC3 hW4;have x4l:w.heap.size+1+1+1+1+1<w4.heap.size:=by have:=HS4.out.box.lt;rw [HW4.out] at this;simpa [World.setCell] using this
    have hz4:W4.heap.size=w4.heap.size:=by rw [HW4.out];simp [World.setCell]
    obtain ⟨W5,hW5⟩:∃ W5,W5=W4.alloc (.cells #[.int .i64 (j:Int),.int .i64 (i:Int),.int .i64 10] 152):=⟨_,rfl⟩;have hb5:Below W4.heap.size W4 W5:=by rw [hW5];exact Qah
    have HC5:=Zh (HS4.out.below hb5);have hrd:Rds W5 3 (some ⟨w4.heap.size,0,none⟩) 1 (Qat [((j:Int),(i:Int),10)]):=by rw [hW5,←hz4];exact (Blk.new W4 152 #[.int .i64 (j:Int),.int .i64 (i:Int),.int .i64 10]).rds rfl
    have hown:=HC5.out.a;have hsz:w.heap.size+1+1+1+1+1+1≤W5.heap.size:=HC5.out.box.lt;have HW5:=Zh hW5;clear hb5 hW5 hz4
    go_wp2_with (at_builtin;rw [←HW4.out,←HW5.out];with_reducible refine Qan rfl (.tmp 34) (.tmp 39) 23 rfl 152 _ 3 24 infoCA underlying23 rfl (by omega) rfl rfl hown hrd (Qde _) (by omega) (by omega) hsz ?_)
    intro A' d' w6 ho6 hg6 hat6;have hB6:=HC5.out.box.grown hg6 (hown.ne (by omega));obtain ⟨y0,y1,y2⟩:=hB6.three;have fy1:=hB6.frozen 1;have HS6:=Zh (HC5.out.pushA hg6 (by rw [HTA.out];exact ho6) hat6);clear hown hrd hsz ho6 hg6 hat6 hB6 HC5 x0 x1 x2 fx0 fx1 x4l
    go_wp2_with fail
    go_roundw
    case rel=>exact ⟨i+1,j+1,V',A',c',d',by omega,by have:=HJ.out;omega,by go_num,HS6.out⟩
    case measure=>simp [intOf];omega
  · obtain rfl:=tm hi0 hi5
    have e5:((i:Int) == 5)=false:=by simp;omega
    clear t5 tm;obtain ⟨x0,x1,x2⟩:=hch.box.three;have xl:=hch.box.lt;obtain ⟨W2,hW2⟩:∃ W2,W2=wr.alloc (.cells #[.int .i64 (i:Int),.int .i64 0,.int .i64 (0:Int)] 157):=⟨_,rfl⟩;have hb2:Below wr.heap.size wr W2:=by rw [hW2];exact Qah
    obtain ⟨W3,hW3⟩:∃ W3,W3=W2.alloc (.cells #[.int .i64 (i:Int),.int .i64 0,.int .i64 (0:Int)] 157):=⟨_,rfl⟩;have hb3:Below W2.heap.size W2 W3:=by rw [hW3];exact Qah
    have hb23:Below wr.heap.size wr W3:=Zb hb2 hb3;have HC3:=Zh (hch.below hb23);have hz2:W2.heap.size=wr.heap.size+1:=by rw [hW2];simp
    have hrd:Rds W3 3 (some ⟨wr.heap.size+1,0,none⟩) 1 (Qat [((i:Int),0,(0:Int))]):=by rw [hW3,←hz2];exact (Blk.new W2 157 #[.int .i64 (i:Int),.int .i64 0,.int .i64 (0:Int)]).rds rfl
    have hown:=HC3.out.v;have hsz:w.heap.size+1+1+1+1+1+1≤W3.heap.size:=HC3.out.box.lt;have HW3:=Zh hW3;have HW2:=Zh hW2;clear hch hb2 hb3 hb23 hW3 hW2 hz2
    go_wp2_with (at_builtin;rw [←HW2.out,←HW3.out];with_reducible refine Qan rfl (.tmp 26) (.tmp 28) 22 rfl 157 _ 3 24 Qxj underlying22 rfl (by omega) rfl rfl hown hrd (Qde _) (by omega) (by omega) hsz ?_)
    intro V' c' w4 ho4 hg4 hat4;have hB4:=HC3.out.box.grown hg4 (hown.ne (by omega));clear x0 x1 x2 xl;obtain ⟨x0,x1,x2⟩:=hB4.three;have fx0:=hB4.frozen 0;have fx1:=hB4.frozen 1;have HS4:=Zh (HC3.out.pushV hg4 (by rw [HTV.out];exact ho4) hat4);obtain ⟨W4,hW4⟩:∃ W4,W4=w4.setCell ⟨w.heap.size+1+1+1+1+1,0,none⟩ (.slice V' (i+1) c'):=⟨_,rfl⟩;rw [←hW4] at HS4;have HW4:=Zh hW4;clear hown hrd hsz ho4 hg4 hat4 hB4 HC3 hW4;have x4l:w.heap.size+1+1+1+1+1<w4.heap.size:=by have:=HS4.out.box.lt;rw [HW4.out] at this;simpa [World.setCell] using this
    have hz4:W4.heap.size=w4.heap.size:=by rw [HW4.out];simp [World.setCell]
    obtain ⟨W5,hW5⟩:∃ W5,W5=W4.alloc (.cells #[.int .i64 (j:Int),.int .i64 (i:Int),.int .i64 10] 152):=⟨_,rfl⟩;have hb5:Below W4.heap.size W4 W5:=by rw [hW5];exact Qah
    have HC5:=Zh (HS4.out.below hb5);have hrd:Rds W5 3 (some ⟨w4.heap.size,0,none⟩) 1 (Qat [((j:Int),(i:Int),10)]):=by rw [hW5,←hz4];exact (Blk.new W4 152 #[.int .i64 (j:Int),.int .i64 (i:Int),.int .i64 10]).rds rfl
    have hown:=HC5.out.a;have hsz:w.heap.size+1+1+1+1+1+1≤W5.heap.size:=HC5.out.box.lt;have HW5:=Zh hW5;clear hb5 hW5 hz4
    go_wp2_with (at_builtin;rw [←HW4.out,←HW5.out];with_reducible refine Qan rfl (.tmp 34) (.tmp 39) 23 rfl 152 _ 3 24 infoCA underlying23 rfl (by omega) rfl rfl hown hrd (Qde _) (by omega) (by omega) hsz ?_)
    intro A' d' w6 ho6 hg6 hat6;have hB6:=HC5.out.box.grown hg6 (hown.ne (by omega));obtain ⟨y0,y1,y2⟩:=hB6.three;have fy1:=hB6.frozen 1;have HS6:=Zh (HC5.out.pushA hg6 (by rw [HTA.out];exact ho6) hat6);clear hown hrd hsz ho6 hg6 hat6 hB6 HC5 x0 x1 x2 fx0 fx1 x4l
    go_wp2_with fail
    go_roundw
    case rel=>exact ⟨i+1,j+1,V',A',c',d',by omega,by have:=HJ.out;omega,by go_num,HS6.out⟩
    case measure=>simp [intOf];omega
end Go.Proofs.YteaoiabikjnkeaaGreatDoor
