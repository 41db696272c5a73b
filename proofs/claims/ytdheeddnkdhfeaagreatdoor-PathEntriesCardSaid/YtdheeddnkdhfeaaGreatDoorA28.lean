/- Parts of the proof: AsG, AsW, As, Tl, Si. -/
import Derived.Test.YtdheeddnkdhfeaaGreatDoorA26
import Derived.Test.YtdheeddnkdhfeaaGreatDoorA27
import Derived.Deep.RegionHeld3
import Derived.Deep.DrawnRows
namespace Go.Proofs.YtdheeddnkdhfeaaGreatDoor
open Go.RowKit Go.Proofs.Tryz
attribute [local go_sem ↓] Go.wp_at_zero Go.wp_at_succ
def Qpk (w:World)(N:Qam) (ls:List (List Int)) (r:Ending) (w':World):Prop :=
 (∃ (g o:Nat) (CB NC:Nat) (cl:List Int) (F:Nat→Prop),r=.returned (.tuple #[.pointer (some ⟨g,0,none⟩),.pointer (some ⟨o,0,none⟩),.slice (some ⟨CB,0,none⟩) NC NC,.bool true])∧NC=Qbx (Qac N.ar ls)∧GrO w' F g N∧(∀ b,F b→w.heap.size≤b∧b<w'.heap.size)∧Qfy (msk w' (fun b=>¬F b∧w.heap.size≤b)) o N.ar ls∧RdI (msk w' (fun b=>¬F b)) (some ⟨CB,0,none⟩) NC cl∧Qcy N ls cl)∧Below w.heap.size w w'
set_option maxHeartbeats 1000000 in
theorem Qmi (A B C Q:Option Addr)(n m k c d e L cq:Nat)(N:Qam) (ls:List (List Int)) (w:World) (h:Qce w A B C n m k N) (hok:Qap N) (hq:RdT w Q L ls) (hP:Qaw N.vs.length ls) (hNC:Qbx (Qac N.ar ls)≤1000000000) :
 Calls prog 11 #[.agg #[.slice A n c,.slice B m d,.slice C k e],.agg #[.slice Q L cq]] w (Qpk w N ls):=by
 unfold Qpk;have HM8:=Zh (fun V (hV:Below w.heap.size w V)=>Qsv A B C n m k c d e N V (h.below hV) hok);have HM17:=Zh (fun V (hV:Below w.heap.size w V)=>Qwu A B C Q n m k c d e L cq N ls V (h.below hV) hok (hq.below hV) hP);have HAL:=Zh (fun V g o (hg:Qes V g N) (ho:Qfy V o N.ar ls)=>all_ok V g o N ls hg hok ho hP hNC);have HIA:=Zh (fun (cl:List Int) (h1:Qgd N ls ls.length 0 cl) (h2:cl.length=Qbx (Qac N.ar ls))=>h1.all h2);obtain ⟨NC,hNCe⟩:∃ NC,NC=Qbx (Qac N.ar ls):=⟨_,rfl⟩;have HNC:=Zh hNCe;clear h hok hq hP hNC hNCe
 go_enter func11,ntmps11
 go_wp2_with fail
 (refine Qai ?_;intro w1 hw1)
 have HB1:=Zh (show Below w.heap.size w w1 by rw [hw1];exact Qah)
 have HX:=Zh (show Blk w1 w.heap.size 26 #[.slice A n c,.slice B m d,.slice C k e] by rw [hw1];exact Qbh)
 have HY:=Zh (show Blk w1 (w.heap.size+1) 29 #[.slice Q L cq] by rw [hw1];exact Qbh)
 clear hw1
 have HSX:=Zh (show ∀ V,Below w1.heap.size w1 V→V.cell? ⟨w.heap.size,0,none⟩=some (.slice A n c)∧V.cell? ⟨w.heap.size,1,none⟩=some (.slice B m d)∧V.cell? ⟨w.heap.size,2,none⟩=some (.slice C k e)∧V.cell? ⟨w.heap.size+1,0,none⟩=some (.slice Q L cq) from
  fun V hV=>⟨by rw [(HX.out.below hV HX.out.lt).cell];rfl,by rw [(HX.out.below hV HX.out.lt).cell];rfl,by rw [(HX.out.below hV HX.out.lt).cell];rfl,by rw [(HY.out.below hV HY.out.lt).cell];rfl⟩)
 go_wp2_with fail
 refine wp_region_held_drew (S:=fun V=>Below w1.heap.size w1 V) (by kernel_rfl) (Zr _ _).drew (fun _=>?_);refine tz 0 10 ?_;refine tz 2 12 ?_;refine tz 3 13 ?_;refine Zk 1 (fun K hK=>?_);go_simp;with_reducible refine (HM8.out _ (Zb HB1.out (Zr _ _).drew)).mono ?_
 rintro r w2 ⟨g,rfl,hG,hb2⟩;have hz1:w1.heap.size≤w2.heap.size:=hb2.size;have hb2':Below w1.heap.size w1 w2:=(Zr _ _).drew.trans hb2;have HG2:=Zh hG;go_simp;refine hK.out _ _ hb2' (fun _=>?_);clear hK K hb2 hG;refine Zk 4 (fun K hK=>?_);go_simp;with_reducible refine (HM17.out w2 (Zb HB1.out hb2')).mono ?_
 rintro r w3 ⟨o,rfl,hO,hb3⟩;have hb3':=Zb hb2' hb3;have HG3:=Zh (HG2.out.below hb3);have HO3:=Zh hO;have HZ3:=Zh hb3.size;have HB3:=Zh (Zb HB1.out hb3');go_simp;refine hK.out _ _ hb3' (fun _=>?_);clear hK K hb2' hb3 hb3' hO HG2;refine tz 5 8 ?_;refine tz 6 9 ?_;refine Zd ?_;have HALL:=Zh (HAL.out w3 g o HG3.out.rd (HO3.out.le (Qat _ _)));clear HSX HM8 HM17 HAL
 go_wp2_with fail
 with_reducible refine HALL.out.mono ?_
 rintro r w4 ⟨CB,cl,rfl,hCB,hCl,hlen,_,hdone,hb4⟩;have HB4:=Zh (Zb HB3.out hb4)
 have HR:=Zh (show GrO w4 (fun b=>w1.heap.size≤b∧b<w2.heap.size) g N∧(∀ b,(fun b=>w1.heap.size≤b∧b<w2.heap.size) b→w.heap.size≤b∧b<w4.heap.size)∧Qfy (msk w4 (fun b=>¬(fun b=>w1.heap.size≤b∧b<w2.heap.size) b∧w.heap.size≤b)) o N.ar ls∧RdI (msk w4 (fun b=>¬(fun b=>w1.heap.size≤b∧b<w2.heap.size) b)) (some ⟨CB,0,none⟩) (Qbx (Qac N.ar ls)) cl∧Qcy N ls cl from by
  refine ⟨HG3.out.below hb4,fun b hb=>⟨Yx HB1.out.size hb.1,by have:=hb4.size;have:=HZ3.out;omega⟩,?_,?_,HIA.out cl hdone hlen⟩
  · refine HO3.out.le (fun a v hc=>?_)
    obtain ⟨h1,h2⟩:=Qba.1 hc;exact Qba.2 ⟨⟨fun h3=>by have:=h1.1;have:=h3.2;omega,by have:=h1.1;have:=HB1.out.size;omega⟩,Zc hb4 (Zn _) h2⟩
  · refine ⟨hlen,fun i x hx=>⟨CB,0,rfl,?_⟩⟩
    refine Qba.2 ⟨fun h3=>by have h4:CB<w2.heap.size:=h3.2;have:=HZ3.out;omega,?_⟩;rw [hCl.cell,Yz,Yo];exact Qij hx)
 rw [←HNC.out] at HR ⊢;clear hCB hCl hlen hdone hb4 HALL
 go_wp2_with fail
 refine bodyPost_ret (v:=.tuple #[.pointer (some ⟨g,0,none⟩),.pointer (some ⟨o,0,none⟩),.slice (some ⟨CB,0,none⟩) NC NC,.bool true]) (by simp [results,results11,go_sem]) rfl ?_;exact ⟨⟨g,o,CB,NC,cl,_,rfl,HNC.out,HR.out⟩,HB4.out⟩
theorem Qxr:(Tryz.prog.info? 124).map (fun i=>(i.zero,i.size,i.bytes))=some (some (.agg #[.int .i64 0,.int .i64 0,.int .i64 0]),3,24):=by kernel_rfl
theorem infoCA:(Tryz.prog.info? 119).map (fun i=>(i.zero,i.size,i.bytes))=some (some (.agg #[.int .i64 0,.int .i64 0,.int .i64 0]),3,24):=by kernel_rfl
structure ChS (g:Nat) (c3:Value) (w1 W:World) (i j:Nat) (V A:Option Addr) (cv ca:Nat):Prop where
 bel:Below g w1 W
 box:Blk W g 26 #[.slice V i cv,.slice A j ca,c3]
 v:Own W (g+1) 124 3 V i cv (Qau (Qaz.vs.take i))
 a:Own W (g+1) 119 3 A j ca (Qau (Qaz.ar.take j))
 d:∀ b,Qab V=some b→Qab A≠some b
theorem ChS.below {g i j cv ca:Nat}{c3:Value}{w1 W W':World}{V A:Option Addr}(h:ChS g c3 w1 W i j V A cv ca)(hb:Below W.heap.size W W'):ChS g c3 w1 W' i j V A cv ca :=
 ⟨h.bel.trans (hb.mono (Nat.le_of_lt h.box.lt)),h.box.below hb h.box.lt,h.v.below hb,h.a.below hb,h.d⟩
theorem ChS.pushV {g i j cv ca c':Nat}{c3:Value}{w1 W W':World}{V A V':Option Addr}(h:ChS g c3 w1 W i j V A cv ca) (hg:W.grownBy W' (Qab V)) (ho:Own W' (g+1) 124 3 V' (i+1) c' (Qau (Qaz.vs.take (i+1)))) (hat:Qab V'=Qab V∨Qab V'=some W.heap.size) :
 ChS g c3 w1 (W'.setCell ⟨g,0,none⟩ (.slice V' (i+1) c')) (i+1) j V' A c' ca:=by
 have hne:Qab V≠some g:=fun e=>by have:=(h.v.lt g e).1;omega
 have hnA:Qab A≠some g:=fun e=>by have:=(h.a.lt g e).1;omega
 have hnV:Qab V'≠some g:=fun e=>by have:=(ho.lt g e).1;omega
 have hb:=h.box.grown hg hne;refine ⟨(Zo h.bel hg (h.v.mono (Nat.le_succ g)) (Nat.le_of_lt h.box.lt)).setCell (by simp only;omega) _,?_,ho.far (Qad _ _ _ _) (.inr hnV),(h.a.far hg ?_).far (Qad _ _ _ _) (.inr hnA),?_⟩
 · have:=hb.set_ 0 (.slice V' (i+1) c')
   simpa using this
 · cases hA:Qab A with
   | none=>exact .inl rfl
   | some b=>exact .inr (fun e=>h.d b e.symm hA)
 · intro b hb hA
   rcases hat with e|e
   · exact h.d b (by rw [←e];exact hb) hA
   · have:=(h.a.lt b hA).2
     rw [e] at hb
     injection hb with hb
     omega
theorem ChS.pushA {g i j cv ca c':Nat}{c3:Value}{w1 W W':World}{V A A':Option Addr}(h:ChS g c3 w1 W i j V A cv ca) (hg:W.grownBy W' (Qab A)) (ho:Own W' (g+1) 119 3 A' (j+1) c' (Qau (Qaz.ar.take (j+1)))) (hat:Qab A'=Qab A∨Qab A'=some W.heap.size) :
 ChS g c3 w1 (W'.setCell ⟨g,1,none⟩ (.slice A' (j+1) c')) i (j+1) V A' cv c':=by
 have hne:Qab A≠some g:=fun e=>by have:=(h.a.lt g e).1;omega
 have hnV:Qab V≠some g:=fun e=>by have:=(h.v.lt g e).1;omega
 have hnA:Qab A'≠some g:=fun e=>by have:=(ho.lt g e).1;omega
 have hb:=h.box.grown hg hne;refine ⟨(Zo h.bel hg (h.a.mono (Nat.le_succ g)) (Nat.le_of_lt h.box.lt)).setCell (by simp only;omega) _,?_,(h.v.far hg ?_).far (Qad _ _ _ _) (.inr hnV),ho.far (Qad _ _ _ _) (.inr hnA),?_⟩
 · have:=hb.set_ 1 (.slice A' (j+1) c')
   simpa using this
 · cases hV:Qab V with
   | none=>exact .inl rfl
   | some b=>exact .inr (fun e=>h.d b hV e.symm)
 · intro b hV hb
   rcases hat with e|e
   · exact h.d b hV (by rw [←e];exact hb)
   · have:=(h.v.lt b hV).2
     rw [e] at hb
     injection hb with hb
     omega
theorem ch_vs (i:Nat)(h:i<6):∃ ty:Int,Qaz.vs[i]?=some ((i:Int),0,ty)∧(i=0→ty=1)∧(i=5→ty=2)∧(i≠0→i≠5→ty=0):=by
 rcases (by omega:i=0∨i=1∨i=2∨i=3∨i=4∨i=5) with rfl|rfl|rfl|rfl|rfl|rfl
 · exact ⟨1,rfl,by simp,by simp,by simp⟩
 · exact ⟨0,rfl,by simp,by simp,by simp⟩
 · exact ⟨0,rfl,by simp,by simp,by simp⟩
 · exact ⟨0,rfl,by simp,by simp,by simp⟩
 · exact ⟨0,rfl,by simp,by simp,by simp⟩
 · exact ⟨2,rfl,by simp,by simp,by simp⟩
theorem ch_ar (j:Nat)(h:j<5):Qaz.ar[j]?=some ((j:Int),((j+1:Nat):Int),10):=by
 rcases (by omega:j=0∨j=1∨j=2∨j=3∨j=4) with rfl|rfl|rfl|rfl|rfl <;> rfl
theorem ch_takeV {i:Nat}{x:Tri} (h:Qaz.vs[i]?=some x):Qau (Qaz.vs.take (i+1))=Qau (Qaz.vs.take i) ++Qau [x]:=by rw [List.take_add_one,h,←Qdz];rfl
theorem ch_takeA {i:Nat}{x:Tri} (h:Qaz.ar[i]?=some x):Qau (Qaz.ar.take (i+1))=Qau (Qaz.ar.take i) ++Qau [x]:=by rw [List.take_add_one,h,←Qdz];rfl
def ChnP (w:World)(r:Ending)(w':World):Prop :=
 (∃ (A B C Q:Option Addr) (a b c q:Nat),r=.returned (.tuple #[.agg #[.slice A 6 a,.slice B 5 b,.slice C 3 c],.agg #[.slice Q 1 q]])∧Qce w' A B C 6 5 3 Qaz∧RdT w' Q 1 Qdj)∧Below w.heap.size w w'
set_option maxRecDepth 20000 in
set_option maxHeartbeats 4000000 in
theorem chain_ok (w:World):Calls prog 31 #[] w (ChnP w):=by
 unfold ChnP
 go_enter func31,ntmps31
 go_wp2_with fail
 (refine Qai ?_;intro w1 hw1)
 have HB1:=Zh (show Below w.heap.size w w1 by rw [hw1];exact Qah)
 have HZ1:=Zh (show w1.heap.size=w.heap.size+1+1+1+1+1+1 by rw [hw1];simp)
 have HC0:=Zh (show Blk w1 w.heap.size 26 #[.slice none 0 0,.slice none 0 0,.slice none 0 0] by rw [hw1];exact Qbh)
 have HC1:=Zh (show Blk w1 (w.heap.size+1) 29 #[.slice none 0 0] by rw [hw1];exact Qbh)
 have HC2:=Zh (show Blk w1 (w.heap.size+1+1) 2 #[.int .i64 1] by rw [hw1];exact Qbh)
 have HC4:=Zh (show Blk w1 (w.heap.size+1+1+1+1) 122 #[.int .i64 1,.int .i64 1,.slice (some ⟨w.heap.size+1+1,0,none⟩) 1 1,.int .i64 0,.int .i64 1,.slice none 0 0,.int .i64 1,.int .i64 0,.slice none 0 0] by rw [hw1];exact Qbh)
 have hN:Blk w1 (w.heap.size+1+1+1+1+1) 26 #[.slice none 0 0,.slice none 0 0,.slice (some ⟨w.heap.size+1+1+1+1,0,none⟩) 3 3]:=by rw [hw1];exact Qbh
 have HST:=Zh (show ChS (w.heap.size+1+1+1+1+1) (.slice (some ⟨w.heap.size+1+1+1+1,0,none⟩) 3 3) w1 w1 0 0 none none 0 0 from ⟨Zr _ _,hN,Own.nil _ _ _ _,Own.nil _ _ _ _,fun b hb=>by cases hb⟩)
 clear hw1 hN
 go_loopw [4] (fun q W=>∃ (i j:Nat) (V A:Option Addr) (cv ca:Nat),i≤6∧j=i-1∧q=.int .i64 i∧ChS (w.heap.size+1+1+1+1+1) (.slice (some ⟨w.heap.size+1+1+1+1,0,none⟩) 3 3) w1 W i j V A cv ca) (fun q _=>7-(intOf q).toNat)
 case atStart=>exact ⟨0,0,none,none,0,0,by omega,rfl,rfl,HST.out⟩
 case round =>
  obtain ⟨i,j,V,A,cv,ca,hi,hj,rfl,hch⟩:=hrel;have HCH:=Zh hch
  by_cases hlt:i<6
  rotate_left
  · obtain rfl:i=6:=by omega
    obtain rfl:j=5:=by omega
    clear hi hj hlt;have hbx:=hch.box;have x0:wr.cell? ⟨w.heap.size+1+1+1+1+1,0,none⟩=some (.slice V 6 cv):=Zq hbx;have x1:wr.cell? ⟨w.heap.size+1+1+1+1+1,1,none⟩=some (.slice A 5 ca):=Zq hbx;have x2:wr.cell? ⟨w.heap.size+1+1+1+1+1,2,none⟩=some (.slice (some ⟨w.heap.size+1+1+1+1,0,none⟩) 3 3):=Zq hbx;have hz1:=HZ1.out;have hzr:w.heap.size+1+1+1+1+1<wr.heap.size:=hbx.lt
    have hC0:Blk wr w.heap.size 26 #[.slice none 0 0,.slice none 0 0,.slice none 0 0]:=HC0.out.below hch.bel (by omega);have hC1:Blk wr (w.heap.size+1) 29 #[.slice none 0 0]:=HC1.out.below hch.bel (by omega);have hC2:=HC2.out.below hch.bel (by omega);have hC4:=HC4.out.below hch.bel (by omega);obtain ⟨W6,hW6⟩:∃ W6,W6=(((wr.setCell ⟨w.heap.size,0,none⟩ (.slice V 6 cv)).setCell ⟨w.heap.size,1,none⟩ (.slice A 5 ca)).setCell ⟨w.heap.size,2,none⟩ (.slice (some ⟨w.heap.size+1+1+1+1,0,none⟩) 3 3)).setCell ⟨w.heap.size+1,0,none⟩ (.slice (some ⟨wr.heap.size+1,0,none⟩) 1 1):=⟨_,rfl⟩;have hz6:W6.heap.size=wr.heap.size:=by rw [hW6];simp [World.setCell]
    have HC0':=Zh (show Blk W6 w.heap.size 26 #[.slice V 6 cv,.slice A 5 ca,.slice (some ⟨w.heap.size+1+1+1+1,0,none⟩) 3 3] by
     have h0:=((hC0.set_ 0 (.slice V 6 cv)).set_ 1 (.slice A 5 ca)).set_ 2 (.slice (some ⟨w.heap.size+1+1+1+1,0,none⟩) 3 3);rw [hW6];refine Blk.far_ (by simpa using h0) ?_ _;omega)
    have HC1':=Zh (show Blk W6 (w.heap.size+1) 29 #[.slice (some ⟨wr.heap.size+1,0,none⟩) 1 1] by
     have h1:Blk (((wr.setCell ⟨w.heap.size,0,none⟩ (.slice V 6 cv)).setCell ⟨w.heap.size,1,none⟩ (.slice A 5 ca)).setCell ⟨w.heap.size,2,none⟩ (.slice (some ⟨w.heap.size+1+1+1+1,0,none⟩) 3 3)) (w.heap.size+1) 29 #[.slice none 0 0]:=Blk.far_ (Blk.far_ (Blk.far_ hC1 (by omega) _) (by omega) _) (by omega) _;rw [hW6]
     simpa using h1.set_ 0 (.slice (some ⟨wr.heap.size+1,0,none⟩) 1 1))
    have HC2':=Zh (show Blk W6 (w.heap.size+1+1) 2 #[.int .i64 1] by rw [hW6];exact Blk.far_ (Blk.far_ (Blk.far_ (Blk.far_ hC2 (by omega) _) (by omega) _) (by omega) _) (by omega) _)
    have HC4':=Zh (show Blk W6 (w.heap.size+1+1+1+1) 122 #[.int .i64 1,.int .i64 1,.slice (some ⟨w.heap.size+1+1,0,none⟩) 1 1,.int .i64 0,.int .i64 1,.slice none 0 0,.int .i64 1,.int .i64 0,.slice none 0 0] by rw [hW6];exact Blk.far_ (Blk.far_ (Blk.far_ (Blk.far_ hC4 (by omega) _) (by omega) _) (by omega) _) (by omega) _)
    have HV:=Zh (show Rd3 W6 V 6 Qaz.vs by
     have h1:=hch.v;have:=((((h1.far (Qad _ w.heap.size 0 (.slice V 6 cv)) (.inr (h1.ne (by omega)))).far (Qad _ w.heap.size 1 (.slice A 5 ca)) (.inr (h1.ne (by omega)))).far (Qad _ w.heap.size 2 (.slice (some ⟨w.heap.size+1+1+1+1,0,none⟩) 3 3)) (.inr (h1.ne (by omega)))).far (Qad _ (w.heap.size+1) 0 (.slice (some ⟨wr.heap.size+1,0,none⟩) 1 1)) (.inr (h1.ne (by omega)))).rds.rd3;rw [hW6];exact this)
    have HA:=Zh (show Rd3 W6 A 5 Qaz.ar by
     have h1:=hch.a;have:=((((h1.far (Qad _ w.heap.size 0 (.slice V 6 cv)) (.inr (h1.ne (by omega)))).far (Qad _ w.heap.size 1 (.slice A 5 ca)) (.inr (h1.ne (by omega)))).far (Qad _ w.heap.size 2 (.slice (some ⟨w.heap.size+1+1+1+1,0,none⟩) 3 3)) (.inr (h1.ne (by omega)))).far (Qad _ (w.heap.size+1) 0 (.slice (some ⟨wr.heap.size+1,0,none⟩) 1 1)) (.inr (h1.ne (by omega)))).rds.rd3;rw [hW6];exact this)
    have hbr:Below w.heap.size w wr:=HB1.out.trans (hch.bel.mono (by omega));have HB6:=Zh (show Below w.heap.size w W6 by rw [hW6];exact ((((hbr.setCell (by simp only;omega) _).setCell (by simp only;omega) _).setCell (by simp only;omega) _).setCell (by simp only;omega) _))
    have HW6:=Zh hW6;have HZ6:=Zh hz6;obtain ⟨k0,k1,k2⟩:=hC0.three;have fk0:=hC0.frozen 0;have fk1:=hC0.frozen 1;have fk2:=hC0.frozen 2;have p0:=hC1.cell 0;simp only [Yo,Yn] at p0;have fp0:=hC1.frozen 0;have kl:=hC0.lt;have pl:=hC1.lt;have xl:=hbx.lt;clear hch hbx hC0 hC1 hC2 hC4 hW6 hz6 hbr
    go_wp2_with fail
    rw [←HW6.out]
    (refine Qel ?_;intro Wf hWf)
    have hbf:Below W6.heap.size W6 Wf:=by rw [hWf];exact Qah
    have h1:Blk Wf wr.heap.size 3 #[.int .i64 0,.int .i64 0,.int .i64 1,.int .i64 1,.int .i64 2,.int .i64 2]:=by rw [hWf,←HZ6.out];exact Qbh
    have h2:Blk Wf (wr.heap.size+1) 61 #[.slice (some ⟨wr.heap.size,0,none⟩) 6 6]:=by rw [hWf,←HZ6.out];exact Qbh
    have hB0:=HC0'.out.below hbf HC0'.out.lt;have hB1:=HC1'.out.below hbf HC1'.out.lt;have h3:=HC2'.out.below hbf HC2'.out.lt;have h4:=HC4'.out.below hbf HC4'.out.lt;obtain ⟨c0,c1,c2⟩:=hB0.three;have d0:=hB1.cell 0;simp only [Yo,Yn] at d0
    have HVf:=Zh (show Qce Wf V A (some ⟨w.heap.size+1+1+1+1,0,none⟩) 6 5 3 Qaz from by
     refine ⟨HV.out.below hbf,HA.out.below hbf,rfl,fun i t ht=>⟨w.heap.size+1+1+1+1,0,rfl,?_⟩⟩
     match i,ht with
     | 0,ht =>
      cases ht
      exact ⟨Zq h4,Zq h4,some ⟨w.heap.size+1+1,0,none⟩,1,1,Zq h4,Rds.rdI (l:=[1]) (h3.rds rfl),Zn _,by omega⟩
     | 1,ht =>
      cases ht
      exact ⟨Zq h4,Zq h4,none,0,0,Zq h4,⟨rfl,fun j x hx=>by simp at hx⟩,Zn _,by omega⟩
     | 2,ht =>
      cases ht
      exact ⟨Zq h4,Zq h4,none,0,0,Zq h4,⟨rfl,fun j x hx=>by simp at hx⟩,Zn _,by omega⟩
     | k+3,ht=>simp [Qaz] at ht)
    have HTf:=Zh (show RdT Wf (some ⟨wr.heap.size+1,0,none⟩) 1 Qdj from by
     refine ⟨rfl,fun i l hl=>?_⟩
     match i,hl with
     | 0,hl =>
      cases hl
      exact ⟨wr.heap.size+1,0,some ⟨wr.heap.size,0,none⟩,6,6,rfl,Zq h2,Rds.rdI (l:=[0,0,1,1,2,2]) (h1.rds rfl),Zn _,by omega⟩
     | k+1,hl=>simp [Qdj] at hl)
    have HBf:=Zh (Zb HB6.out hbf);refine bodyPost_ret (v:=.tuple #[.agg #[.slice V 6 cv,.slice A 5 ca,.slice (some ⟨w.heap.size+1+1+1+1,0,none⟩) 3 3],.agg #[.slice (some ⟨wr.heap.size+1,0,none⟩) 1 1]]) (by simp [results,results31,go_sem,c0,c1,c2,d0]) rfl ?_;exact ⟨⟨_,_,_,_,_,_,_,_,rfl,HVf.out,HTf.out⟩,HBf.out⟩
  have HJ:=Zh hj;obtain ⟨ty,hty,t0,t5,tm⟩:=ch_vs i hlt;have HTY:=Zh hty;have HTV:=Zh (ch_takeV hty);clear hty
  by_cases hi0:i=0
  · obtain rfl:=t0 hi0
    have hj0:j=0:=by omega
    have e0:((i:Int) == 0)=true:=by simp [hi0]
    have e5:((i:Int) == 5)=false:=by simp [hi0]
    have e6:¬(0:Int)<(i:Int):=by omega
    have HI0:=Zh hi0;have HJ0:=Zh hj0;clear t0 t5 tm hi0 hj0 hj;obtain ⟨x0,x1,x2⟩:=hch.box.three;have xl:=hch.box.lt;obtain ⟨W2,hW2⟩:∃ W2,W2=wr.alloc (.cells #[.int .i64 (i:Int),.int .i64 0,.int .i64 (1:Int)] 124):=⟨_,rfl⟩;have hb2:Below wr.heap.size wr W2:=by rw [hW2];exact Qah
    obtain ⟨W3,hW3⟩:∃ W3,W3=W2.alloc (.cells #[.int .i64 (i:Int),.int .i64 0,.int .i64 (1:Int)] 124):=⟨_,rfl⟩;have hb3:Below W2.heap.size W2 W3:=by rw [hW3];exact Qah
    have hb23:Below wr.heap.size wr W3:=Zb hb2 hb3;have HC3:=Zh (hch.below hb23);have hz2:W2.heap.size=wr.heap.size+1:=by rw [hW2];simp
    have hrd:Rds W3 3 (some ⟨wr.heap.size+1,0,none⟩) 1 (Qau [((i:Int),0,(1:Int))]):=by rw [hW3,←hz2];exact (Blk.new W2 124 #[.int .i64 (i:Int),.int .i64 0,.int .i64 (1:Int)]).rds rfl
    have hown:=HC3.out.v;have hsz:w.heap.size+1+1+1+1+1+1≤W3.heap.size:=HC3.out.box.lt;have HW3:=Zh hW3;have HW2:=Zh hW2;clear hch hb2 hb3 hb23 hW3 hW2 hz2
    go_wp2_with (at_builtin;rw [←HW2.out,←HW3.out];with_reducible refine Qal rfl (.tmp 26) (.tmp 28) 22 rfl 124 _ 3 24 Qxr underlying22 rfl (by omega) rfl rfl hown hrd (Qdk _) (by omega) (by omega) hsz ?_)
    intro V' c' w4 ho4 hg4 hat4;have hB4:=HC3.out.box.grown hg4 (hown.ne (by omega));clear x0 x1 x2 xl;obtain ⟨x0,x1,x2⟩:=hB4.three;have fx0:=hB4.frozen 0;have fx1:=hB4.frozen 1;have HS4:=Zh (HC3.out.pushV hg4 (by rw [HTV.out];exact ho4) hat4);obtain ⟨W4,hW4⟩:∃ W4,W4=w4.setCell ⟨w.heap.size+1+1+1+1+1,0,none⟩ (.slice V' (i+1) c'):=⟨_,rfl⟩;rw [←hW4] at HS4;have HW4:=Zh hW4;clear hown hrd hsz ho4 hg4 hat4 hB4 HC3 hW4
    go_wp2_with fail
    rw [←HW4.out]
    go_roundw
    case rel=>exact ⟨i+1,j,V',A,c',ca,by omega,by have:=HI0.out;have:=HJ0.out;omega,by go_num,HS4.out⟩
    case measure=>simp [intOf];omega
  have e0:((i:Int) == 0)=false:=by simpa using hi0
  have e6:(0:Int)<(i:Int):=by omega
  have eij:(i:Int)-1=(j:Int):=by omega
  have wl:IntKind.i64.wrap (j:Int)=(j:Int):=IntWalk.i64_in _ (by omega);have hAR:=ch_ar j (by omega);rw [show ((j+1:Nat):Int)=(i:Int) by omega] at hAR
  have HTA:=Zh (ch_takeA hAR);clear hAR t0 hj
  by_cases hi5:i=5
  · obtain rfl:=t5 hi5
    have e5:((i:Int) == 5)=true:=by simp [hi5]
    clear t5 tm hi5;obtain ⟨x0,x1,x2⟩:=hch.box.three;have xl:=hch.box.lt;obtain ⟨W2,hW2⟩:∃ W2,W2=wr.alloc (.cells #[.int .i64 (i:Int),.int .i64 0,.int .i64 (2:Int)] 124):=⟨_,rfl⟩;have hb2:Below wr.heap.size wr W2:=by rw [hW2];exact Qah
    obtain ⟨W3,hW3⟩:∃ W3,W3=W2.alloc (.cells #[.int .i64 (i:Int),.int .i64 0,.int .i64 (2:Int)] 124):=⟨_,rfl⟩;have hb3:Below W2.heap.size W2 W3:=by rw [hW3];exact Qah
    have hb23:Below wr.heap.size wr W3:=Zb hb2 hb3;have HC3:=Zh (hch.below hb23);have hz2:W2.heap.size=wr.heap.size+1:=by rw [hW2];simp
    have hrd:Rds W3 3 (some ⟨wr.heap.size+1,0,none⟩) 1 (Qau [((i:Int),0,(2:Int))]):=by rw [hW3,←hz2];exact (Blk.new W2 124 #[.int .i64 (i:Int),.int .i64 0,.int .i64 (2:Int)]).rds rfl
    have hown:=HC3.out.v;have hsz:w.heap.size+1+1+1+1+1+1≤W3.heap.size:=HC3.out.box.lt;have HW3:=Zh hW3;have HW2:=Zh hW2;clear hch hb2 hb3 hb23 hW3 hW2 hz2
    go_wp2_with (at_builtin;rw [←HW2.out,←HW3.out];with_reducible refine Qal rfl (.tmp 26) (.tmp 28) 22 rfl 124 _ 3 24 Qxr underlying22 rfl (by omega) rfl rfl hown hrd (Qdk _) (by omega) (by omega) hsz ?_)
    intro V' c' w4 ho4 hg4 hat4;have hB4:=HC3.out.box.grown hg4 (hown.ne (by omega));clear x0 x1 x2 xl;obtain ⟨x0,x1,x2⟩:=hB4.three;have fx0:=hB4.frozen 0;have fx1:=hB4.frozen 1;have HS4:=Zh (HC3.out.pushV hg4 (by rw [HTV.out];exact ho4) hat4);obtain ⟨W4,hW4⟩:∃ W4,W4=w4.setCell ⟨w.heap.size+1+1+1+1+1,0,none⟩ (.slice V' (i+1) c'):=⟨_,rfl⟩;rw [←hW4] at HS4;have HW4:=Zh hW4;clear hown hrd hsz ho4 hg4 hat4 hB4 HC3 hW4;have x4l:w.heap.size+1+1+1+1+1<w4.heap.size:=by have:=HS4.out.box.lt;rw [HW4.out] at this;simpa [World.setCell] using this
    have hz4:W4.heap.size=w4.heap.size:=by rw [HW4.out];simp [World.setCell]
    obtain ⟨W5,hW5⟩:∃ W5,W5=W4.alloc (.cells #[.int .i64 (j:Int),.int .i64 (i:Int),.int .i64 10] 119):=⟨_,rfl⟩;have hb5:Below W4.heap.size W4 W5:=by rw [hW5];exact Qah
    have HC5:=Zh (HS4.out.below hb5);have hrd:Rds W5 3 (some ⟨w4.heap.size,0,none⟩) 1 (Qau [((j:Int),(i:Int),10)]):=by rw [hW5,←hz4];exact (Blk.new W4 119 #[.int .i64 (j:Int),.int .i64 (i:Int),.int .i64 10]).rds rfl
    exact Kaj
  · obtain rfl:=tm hi0 hi5
    have e5:((i:Int) == 5)=false:=by simp;omega
    clear t5 tm;obtain ⟨x0,x1,x2⟩:=hch.box.three;have xl:=hch.box.lt;obtain ⟨W2,hW2⟩:∃ W2,W2=wr.alloc (.cells #[.int .i64 (i:Int),.int .i64 0,.int .i64 (0:Int)] 124):=⟨_,rfl⟩;have hb2:Below wr.heap.size wr W2:=by rw [hW2];exact Qah
    obtain ⟨W3,hW3⟩:∃ W3,W3=W2.alloc (.cells #[.int .i64 (i:Int),.int .i64 0,.int .i64 (0:Int)] 124):=⟨_,rfl⟩;have hb3:Below W2.heap.size W2 W3:=by rw [hW3];exact Qah
    have hb23:Below wr.heap.size wr W3:=Zb hb2 hb3;have HC3:=Zh (hch.below hb23);have hz2:W2.heap.size=wr.heap.size+1:=by rw [hW2];simp
    have hrd:Rds W3 3 (some ⟨wr.heap.size+1,0,none⟩) 1 (Qau [((i:Int),0,(0:Int))]):=by rw [hW3,←hz2];exact (Blk.new W2 124 #[.int .i64 (i:Int),.int .i64 0,.int .i64 (0:Int)]).rds rfl
    have hown:=HC3.out.v;have hsz:w.heap.size+1+1+1+1+1+1≤W3.heap.size:=HC3.out.box.lt;have HW3:=Zh hW3;have HW2:=Zh hW2;clear hch hb2 hb3 hb23 hW3 hW2 hz2
    go_wp2_with (at_builtin;rw [←HW2.out,←HW3.out];with_reducible refine Qal rfl (.tmp 26) (.tmp 28) 22 rfl 124 _ 3 24 Qxr underlying22 rfl (by omega) rfl rfl hown hrd (Qdk _) (by omega) (by omega) hsz ?_)
    intro V' c' w4 ho4 hg4 hat4;have hB4:=HC3.out.box.grown hg4 (hown.ne (by omega));clear x0 x1 x2 xl;obtain ⟨x0,x1,x2⟩:=hB4.three;have fx0:=hB4.frozen 0;have fx1:=hB4.frozen 1;have HS4:=Zh (HC3.out.pushV hg4 (by rw [HTV.out];exact ho4) hat4);obtain ⟨W4,hW4⟩:∃ W4,W4=w4.setCell ⟨w.heap.size+1+1+1+1+1,0,none⟩ (.slice V' (i+1) c'):=⟨_,rfl⟩;rw [←hW4] at HS4;have HW4:=Zh hW4;clear hown hrd hsz ho4 hg4 hat4 hB4 HC3 hW4;have x4l:w.heap.size+1+1+1+1+1<w4.heap.size:=by have:=HS4.out.box.lt;rw [HW4.out] at this;simpa [World.setCell] using this
    have hz4:W4.heap.size=w4.heap.size:=by rw [HW4.out];simp [World.setCell]
    obtain ⟨W5,hW5⟩:∃ W5,W5=W4.alloc (.cells #[.int .i64 (j:Int),.int .i64 (i:Int),.int .i64 10] 119):=⟨_,rfl⟩;have hb5:Below W4.heap.size W4 W5:=by rw [hW5];exact Qah
    have HC5:=Zh (HS4.out.below hb5);have hrd:Rds W5 3 (some ⟨w4.heap.size,0,none⟩) 1 (Qau [((j:Int),(i:Int),10)]):=by rw [hW5,←hz4];exact (Blk.new W4 119 #[.int .i64 (j:Int),.int .i64 (i:Int),.int .i64 10]).rds rfl
    exact Kaj
end Go.Proofs.YtdheeddnkdhfeaaGreatDoor
namespace Go.Proofs.YtdheeddnkdhfeaaGreatDoor
open Go.RowKit Go.Extern.Stop Go.Stop Go.Extern Go.Proofs.Tryz
theorem Qtb (z:Sem Value)(f:TypeId→Addr→Nat→Nat→Sem Value)(v:Value) :
 ReflectliteValue.method z f #[v]=(do match ←ReflectliteValue.parts v with|none=>z|some (t,a,fl)=>f t a fl (fl % 32)):=rfl
theorem as_rls (v x:Value):ReflectliteValue.set #[v,x]=(do
 let (some (dst,a,fl),some (src,b,_)):=(←ReflectliteValue.parts v,←ReflectliteValue.parts x)
  | unsupported (.noEntry "extern/(internal/reflectlite.Value).Set.zeroValue")
 if fl / ReflectliteValue.flagAddr % 2 == 0 then unsupported (.noEntry "extern/(internal/reflectlite.Value).Set.unaddressable")
 let val ←loadVar src b
 if ←Rtype.directlyAssignable dst src then storeVar dst a val
 else if ←Rtype.implements dst src then
  if (←Rtype.kind src) == 20 then
   match val with
   | .nilIface => unsupported (.noEntry "extern/reflectlite: a nil value of one interface type handed on as a value of another")
   | _=>storeVar dst a val
  else storeVar dst a (.iface src val)
 else panicString ("reflectlite.Set: value of type " ++ (← Rtype.spelt src) ++ " is not assignable to type " ++ (← Rtype.spelt dst))
 pure (.tuple #[])):=rfl
theorem Qnh (h : Value) (w : World) : (Go.method 463 281 (.agg #[h]) "Kind").run Tryz.prog w = .ok (231, h) w := by kernel_rfl
theorem Qmk (h : Value) (w : World) : (Go.method 463 281 (.agg #[h]) "Elem").run Tryz.prog w = .ok (243, .agg #[h]) w := by kernel_rfl
theorem Qem (h : Value) (w : World) : (Go.method 463 281 (.agg #[h]) "Implements").run Tryz.prog w = .ok (244, .agg #[h]) w := by kernel_rfl
theorem Qdt (h : Value) (w : World) : (Go.method 463 281 (.agg #[h]) "AssignableTo").run Tryz.prog w = .ok (241, .agg #[h]) w := by kernel_rfl
def Qmv:Value:=.iface 281 (.agg #[.pointer (some ⟨1,44,none⟩)])
abbrev rty (t:Nat):Value:=.agg #[.pointer (some ⟨1,t,none⟩)]
abbrev rtv (t:Nat):Value:=.iface 281 (rty t)
abbrev rvl (t:Nat) (a:Addr) (f:Int):Value:=.agg #[.pointer (some ⟨1,t,none⟩),.pointer (some a),.int .u64 f]
abbrev asW (t:Addr) (p:Nat) (w:World):World:=((w.alloc (.cells #[.pointer (some t)] p)).alloc (.cells #[.pointer (some ⟨1,p,none⟩),.pointer (some ⟨w.heap.size,0,none⟩),.int .u64 150] 232))
abbrev asX (t:Addr) (p:Nat) (w:World):World:=(asW t p w).alloc (.cells #[.pointer (some ⟨1,p,none⟩),.pointer (some ⟨w.heap.size,0,none⟩),.int .u64 150] 232)
/-! ### at **api.Fault -/
theorem Qis (t:Addr)(w:World):(ReflectliteValue.unpack (.iface 148 (.pointer (some t)))).run prog w=.ok (rvl 148 ⟨w.heap.size,0,none⟩ 150) (w.alloc (.cells #[.pointer (some t)] 148)):=by kernel_rfl
theorem Qoc (a : Addr) (w : World) : (ReflectliteValue.methodAny (ReflectliteValue.valueError "reflectlite.Value.Type" 0) (fun t _ _ _ => ReflectliteType.toType t) #[rvl 148 a 150]).run Tryz.prog w = .ok (rtv 148) w := by kernel_rfl
theorem Qoe (w:World):((ReflectliteType.abiMethod fun t=>(fun a:Nat=>Value.int IntKind.u8 (a:Int)) <$> Rtype.kind t) #[.pointer (some ⟨1,148,none⟩)]).run prog w=.ok (.int .u8 22) w:=by kernel_rfl
theorem Qsr (w:World):((ReflectliteType.abiMethod fun t=>(fun a:Nat=>Value.int IntKind.u8 (a:Int)) <$> Rtype.kind t) #[.pointer (some ⟨1,146,none⟩)]).run prog w=.ok (.int .u8 22) w:=by kernel_rfl
theorem Qme (a:Addr)(w:World):(ReflectliteValue.parts (rvl 148 a 150)).run prog w=.ok (some (148,a,150)) w:=by kernel_rfl
theorem Qou (a p:Addr)(W:World) (ha:W.cell? a=some (.pointer (some p))) :
 (ReflectliteValue.method (ReflectliteValue.valueError "reflectlite.Value.IsNil" 0) ReflectliteValue.isNil #[rvl 148 a 150]).run Tryz.prog W = .ok (.bool false) W := by
 rw [Qtb];simp only [Sem.run_bind,Qme,Result.andThen];simp [ReflectliteValue.isNil,loadVar,isAgg,underlying,underlying148,ha,Result.andThen]
theorem Qtf (w:World):(ReflectliteType.method ReflectliteType.elem #[rty 148]).run prog w=.ok (rtv 146) w:=by kernel_rfl
theorem Qgr (w : World) : (ReflectliteType.relation "Implements" ReflectliteType.implements_ #[rty 146, Qmv]).run Tryz.prog w = .ok (.bool true) w := by kernel_rfl
theorem Qup (w:World):(Rtype.elem? 148).run prog w=.ok (some 146) w:=by kernel_rfl
theorem as_mkF (p:Addr)(w:World):(ReflectliteValue.mk 146 p ReflectliteValue.flagAddr).run prog w=.ok (rvl 146 p 406) w:=by kernel_rfl
theorem Qvp (a p:Addr)(W:World) (ha:W.cell? a=some (.pointer (some p))) :
 (ReflectliteValue.method (ReflectliteValue.valueError "reflectlite.Value.Elem" 0) ReflectliteValue.elem #[rvl 148 a 150]).run Tryz.prog W = .ok (rvl 146 p 406) W := by
 rw [Qtb];simp only [Sem.run_bind,Qme,Result.andThen];simp [ReflectliteValue.elem,loadVar,isAgg,underlying,underlying148,ha,Result.andThen,Qup,as_mkF]
theorem Qto (v:Value)(w:World):(ReflectliteType.typeOf #[.iface 146 v]).run prog w=.ok (rtv 146) w:=by kernel_rfl
theorem Qlf (w : World) : (ReflectliteType.relation "AssignableTo" ReflectliteType.assignableTo #[rty 146, rtv 146]).run Tryz.prog w = .ok (.bool true) w := by kernel_rfl
theorem Qqy (e:Addr)(w:World):(ReflectliteValue.unpack (.iface 146 (.pointer (some e)))).run prog w=.ok (rvl 146 ⟨w.heap.size,0,none⟩ 150) (w.alloc (.cells #[.pointer (some e)] 146)):=by kernel_rfl
theorem Qty (a:Addr)(w:World):(ReflectliteValue.parts (rvl 146 a 406)).run prog w=.ok (some (146,a,406)) w:=by kernel_rfl
theorem Qxl (a:Addr)(w:World):(ReflectliteValue.parts (rvl 146 a 150)).run prog w=.ok (some (146,a,150)) w:=by kernel_rfl
theorem Quq (w:World):(Rtype.directlyAssignable 146 146).run prog w=.ok true w:=by kernel_rfl
theorem as_setF (ta b:Addr)(e:Addr)(old:Value)(W:World) (hb:W.cell? b=some (.pointer (some e))) (ht:W.cell? ta=some old) (hf:W.frozen? ta=false) :
 (ReflectliteValue.set #[rvl 146 ta 406,rvl 146 b 150]).run prog W=.ok (.tuple #[]) (W.setCell ta (.pointer (some e))):=by
 rw [as_rls];simp only [Sem.run_bind,Qty,Qxl,Result.andThen];simp [ReflectliteValue.flagAddr,loadVar,isAgg,underlying,underlying146,hb,Result.andThen,Quq,storeVar,Value.cells,storeCells,Addr.add];rw [run_store prog W ta _ _ (by rfl)];simp [ht,hf]
/-! ### at *api.Errno -/
theorem Qot (t:Addr)(w:World):(ReflectliteValue.unpack (.iface 153 (.pointer (some t)))).run prog w=.ok (rvl 153 ⟨w.heap.size,0,none⟩ 150) (w.alloc (.cells #[.pointer (some t)] 153)):=by kernel_rfl
theorem Qvm (a : Addr) (w : World) : (ReflectliteValue.methodAny (ReflectliteValue.valueError "reflectlite.Value.Type" 0) (fun t _ _ _ => ReflectliteType.toType t) #[rvl 153 a 150]).run Tryz.prog w = .ok (rtv 153) w := by kernel_rfl
theorem Qwc (w:World):((ReflectliteType.abiMethod fun t=>(fun a:Nat=>Value.int IntKind.u8 (a:Int)) <$> Rtype.kind t) #[.pointer (some ⟨1,153,none⟩)]).run prog w=.ok (.int .u8 22) w:=by kernel_rfl
theorem as_kindE (w:World):((ReflectliteType.abiMethod fun t=>(fun a:Nat=>Value.int IntKind.u8 (a:Int)) <$> Rtype.kind t) #[.pointer (some ⟨1,131,none⟩)]).run prog w=.ok (.int .u8 2) w:=by kernel_rfl
theorem Qlv (a:Addr)(w:World):(ReflectliteValue.parts (rvl 153 a 150)).run prog w=.ok (some (153,a,150)) w:=by kernel_rfl
theorem Qyg (a p:Addr)(W:World) (ha:W.cell? a=some (.pointer (some p))) :
 (ReflectliteValue.method (ReflectliteValue.valueError "reflectlite.Value.IsNil" 0) ReflectliteValue.isNil #[rvl 153 a 150]).run Tryz.prog W = .ok (.bool false) W := by
 rw [Qtb];simp only [Sem.run_bind,Qlv,Result.andThen];simp [ReflectliteValue.isNil,loadVar,isAgg,underlying,underlying153,ha,Result.andThen]
theorem as_elemE (w:World):(ReflectliteType.method ReflectliteType.elem #[rty 153]).run prog w=.ok (rtv 131) w:=by kernel_rfl
theorem Qla (w : World) : (ReflectliteType.relation "Implements" ReflectliteType.implements_ #[rty 131, Qmv]).run Tryz.prog w = .ok (.bool true) w := by kernel_rfl
theorem Quc (w:World):(Rtype.elem? 153).run prog w=.ok (some 131) w:=by kernel_rfl
theorem as_mkE (p:Addr)(w:World):(ReflectliteValue.mk 131 p ReflectliteValue.flagAddr).run prog w=.ok (rvl 131 p 386) w:=by kernel_rfl
theorem Qyd (a p:Addr)(W:World) (ha:W.cell? a=some (.pointer (some p))) :
 (ReflectliteValue.method (ReflectliteValue.valueError "reflectlite.Value.Elem" 0) ReflectliteValue.elem #[rvl 153 a 150]).run Tryz.prog W = .ok (rvl 131 p 386) W := by
 rw [Qtb];simp only [Sem.run_bind,Qlv,Result.andThen];simp [ReflectliteValue.elem,loadVar,isAgg,underlying,underlying153,ha,Result.andThen,Quc,as_mkE]
theorem Qmc (v:Value)(w:World):(ReflectliteType.typeOf #[.iface 131 v]).run prog w=.ok (rtv 131) w:=by kernel_rfl
theorem Qlc (w : World) : (ReflectliteType.relation "AssignableTo" ReflectliteType.assignableTo #[rty 131, rtv 131]).run Tryz.prog w = .ok (.bool true) w := by kernel_rfl
theorem Qrg (c:Int)(w:World):(ReflectliteValue.unpack (.iface 131 (.int .i64 c))).run prog w=.ok (rvl 131 ⟨w.heap.size,0,none⟩ 130) (w.alloc (.cells #[.int .i64 c] 131)):=by kernel_rfl
theorem Qtw (a:Addr)(w:World):(ReflectliteValue.parts (rvl 131 a 386)).run prog w=.ok (some (131,a,386)) w:=by kernel_rfl
theorem Qxc (a:Addr)(w:World):(ReflectliteValue.parts (rvl 131 a 130)).run prog w=.ok (some (131,a,130)) w:=by kernel_rfl
theorem Quf (w:World):(Rtype.directlyAssignable 131 131).run prog w=.ok true w:=by kernel_rfl
theorem as_setE (ta b:Addr)(c:Int)(old:Value)(W:World) (hb:W.cell? b=some (.int .i64 c)) (ht:W.cell? ta=some old) (hf:W.frozen? ta=false) :
 (ReflectliteValue.set #[rvl 131 ta 386,rvl 131 b 130]).run prog W=.ok (.tuple #[]) (W.setCell ta (.int .i64 c)):=by
 rw [as_rls];simp only [Sem.run_bind,Qtw,Qxc,Result.andThen];simp [ReflectliteValue.flagAddr,loadVar,isAgg,underlying,underlying131,hb,Result.andThen,Quf,storeVar,Value.cells,storeCells,Addr.add];rw [run_store prog W ta _ _ (by rfl)];simp [ht,hf]
set_option maxHeartbeats 4000000 in
theorem as_hitF (e:Addr)(t:Addr)(old:Value)(w:World)(hg:w.cell? ⟨0,0,none⟩=some Qmv)(ht0:w.cell? t=some old)(hf0:w.frozen? t=false) :
 Calls prog 71 #[.iface 146 (.pointer (some e)),.iface 148 (.pointer (some t))] w fun ev w'=>ev=.returned (.bool true)∧w'=((asX t 148 w).alloc (.cells #[.pointer (some e)] 146)).setCell t (.pointer (some e)):=by
 have h6:=@run_callFunc_extern prog 123 _ (fun args=>ReflectliteValue.unpack (args.getD 0 (.tuple #[]))) func123 (by kernel_rfl) (by kernel_rfl) (by kernel_rfl) (by kernel_rfl)
 have h7 := @run_callFunc_extern Tryz.prog 124 _ (ReflectliteValue.methodAny (ReflectliteValue.valueError "reflectlite.Value.Type" 0) (fun t _ _ _ => ReflectliteType.toType t)) Tryz.func124 (by kernel_rfl) (by kernel_rfl) (by kernel_rfl) (by kernel_rfl)
 have h8 := @run_callFunc_extern Tryz.prog 125 _ (ReflectliteValue.method (ReflectliteValue.valueError "reflectlite.Value.IsNil" 0) ReflectliteValue.isNil) Tryz.func125 (by kernel_rfl) (by kernel_rfl) (by kernel_rfl) (by kernel_rfl)
 have h27:=@run_callFunc_extern prog 231 _ (ReflectliteType.abiMethod fun t=>do pure (.int .u8 (←Rtype.kind t))) func231 (by kernel_rfl) (by kernel_rfl) (by kernel_rfl) (by kernel_rfl);have h37:=@run_callFunc_extern prog 243 _ (ReflectliteType.method ReflectliteType.elem) func243 (by kernel_rfl) (by kernel_rfl) (by kernel_rfl) (by kernel_rfl)
 have h38 := @run_callFunc_extern Tryz.prog 244 _ (ReflectliteType.relation "Implements" ReflectliteType.implements_) Tryz.func244 (by kernel_rfl) (by kernel_rfl) (by kernel_rfl) (by kernel_rfl)
 have h10:=@run_callFunc_extern prog 121 _ ReflectliteType.typeOf func121 (by kernel_rfl) (by kernel_rfl) (by kernel_rfl) (by kernel_rfl)
 have h35 := @run_callFunc_extern Tryz.prog 241 _ (ReflectliteType.relation "AssignableTo" ReflectliteType.assignableTo) Tryz.func241 (by kernel_rfl) (by kernel_rfl) (by kernel_rfl) (by kernel_rfl)
 have h11 := @run_callFunc_extern Tryz.prog 167 _ (ReflectliteValue.method (ReflectliteValue.valueError "reflectlite.Value.Elem" 0) ReflectliteValue.elem) Tryz.func167 (by kernel_rfl) (by kernel_rfl) (by kernel_rfl) (by kernel_rfl)
 have h12:=@run_callFunc_extern prog 168 _ ReflectliteValue.set func168 (by kernel_rfl) (by kernel_rfl) (by kernel_rfl) (by kernel_rfl);have mA:=Qdt;have mK:=Qnh;have mE:=Qmk;have mI:=Qem;have tO:=Qto;have aS:=Qlf;have vO:=Qqy;have f6:=Qis;have f7:=Qoc;have kP:=Qoe;have kE:=Qsr;have eL:=Qtf;have iM:=Qgr;have n8:=Qou ⟨w.heap.size,0,none⟩ t (asW t 148 w) (by simp);have hlt:0<w.heap.size:=Qaj hg
 have htl:t.block<w.heap.size:=Qaj ht0
 have hg2:(asW t 148 w).cell? ⟨0,0,none⟩=some Qmv:=by
  exact Kbk
 have el:=Qvp ⟨w.heap.size,0,none⟩ t (asX t 148 w) (by rw [World.cell?_alloc_lt _ _ ⟨w.heap.size,0,none⟩ (by simp;omega)];simp)
 have st:=as_setF t ⟨w.heap.size+1+1+1,0,none⟩ e old ((asX t 148 w).alloc (.cells #[.pointer (some e)] 146))
  (by rw [World.cell?_alloc_at _ _ _ _ (by simp)];rfl)
  (by rw [World.cell?_alloc_lt _ _ t (by simp;omega),World.cell?_alloc_lt _ _ t (by simp;omega),World.cell?_alloc_lt _ _ t (by simp;omega),World.cell?_alloc_lt _ _ t htl];exact ht0)
  (by rw [World.frozen?_alloc_old _ _ t (by simp;omega),World.frozen?_alloc_old _ _ t (by simp;omega),World.frozen?_alloc_old _ _ t (by simp;omega),World.frozen?_alloc_old _ _ t (Nat.ne_of_lt htl)];exact hf0)
 exact Kbr
set_option maxHeartbeats 4000000 in
theorem as_hitE (c:Int)(t:Addr)(old:Value)(w:World)(hg:w.cell? ⟨0,0,none⟩=some Qmv)(ht0:w.cell? t=some old)(hf0:w.frozen? t=false) :
 Calls prog 71 #[.iface 131 (.int .i64 c),.iface 153 (.pointer (some t))] w fun ev w'=>ev=.returned (.bool true)∧w'=((asX t 153 w).alloc (.cells #[.int .i64 c] 131)).setCell t (.int .i64 c):=by
 have h6:=@run_callFunc_extern prog 123 _ (fun args=>ReflectliteValue.unpack (args.getD 0 (.tuple #[]))) func123 (by kernel_rfl) (by kernel_rfl) (by kernel_rfl) (by kernel_rfl)
 have h7 := @run_callFunc_extern Tryz.prog 124 _ (ReflectliteValue.methodAny (ReflectliteValue.valueError "reflectlite.Value.Type" 0) (fun t _ _ _ => ReflectliteType.toType t)) Tryz.func124 (by kernel_rfl) (by kernel_rfl) (by kernel_rfl) (by kernel_rfl)
 have h8 := @run_callFunc_extern Tryz.prog 125 _ (ReflectliteValue.method (ReflectliteValue.valueError "reflectlite.Value.IsNil" 0) ReflectliteValue.isNil) Tryz.func125 (by kernel_rfl) (by kernel_rfl) (by kernel_rfl) (by kernel_rfl)
 have h27:=@run_callFunc_extern prog 231 _ (ReflectliteType.abiMethod fun t=>do pure (.int .u8 (←Rtype.kind t))) func231 (by kernel_rfl) (by kernel_rfl) (by kernel_rfl) (by kernel_rfl);have h37:=@run_callFunc_extern prog 243 _ (ReflectliteType.method ReflectliteType.elem) func243 (by kernel_rfl) (by kernel_rfl) (by kernel_rfl) (by kernel_rfl)
 have h38 := @run_callFunc_extern Tryz.prog 244 _ (ReflectliteType.relation "Implements" ReflectliteType.implements_) Tryz.func244 (by kernel_rfl) (by kernel_rfl) (by kernel_rfl) (by kernel_rfl)
 have h10:=@run_callFunc_extern prog 121 _ ReflectliteType.typeOf func121 (by kernel_rfl) (by kernel_rfl) (by kernel_rfl) (by kernel_rfl)
 have h35 := @run_callFunc_extern Tryz.prog 241 _ (ReflectliteType.relation "AssignableTo" ReflectliteType.assignableTo) Tryz.func241 (by kernel_rfl) (by kernel_rfl) (by kernel_rfl) (by kernel_rfl)
 have h11 := @run_callFunc_extern Tryz.prog 167 _ (ReflectliteValue.method (ReflectliteValue.valueError "reflectlite.Value.Elem" 0) ReflectliteValue.elem) Tryz.func167 (by kernel_rfl) (by kernel_rfl) (by kernel_rfl) (by kernel_rfl)
 have h12:=@run_callFunc_extern prog 168 _ ReflectliteValue.set func168 (by kernel_rfl) (by kernel_rfl) (by kernel_rfl) (by kernel_rfl);have mA:=Qdt;have mK:=Qnh;have mE:=Qmk;have mI:=Qem;have tO:=Qmc;have aS:=Qlc;have vO:=Qrg;have f6:=Qot;have f7:=Qvm;have kP:=Qwc;have kE:=as_kindE;have eL:=as_elemE;have iM:=Qla;have n8:=Qyg ⟨w.heap.size,0,none⟩ t (asW t 153 w) (by simp);have hlt:0<w.heap.size:=Qaj hg
 have htl:t.block<w.heap.size:=Qaj ht0
 have hg2:(asW t 153 w).cell? ⟨0,0,none⟩=some Qmv:=by
  exact Kbk
 have el:=Qyd ⟨w.heap.size,0,none⟩ t (asX t 153 w) (by rw [World.cell?_alloc_lt _ _ ⟨w.heap.size,0,none⟩ (by simp;omega)];simp)
 have st:=as_setE t ⟨w.heap.size+1+1+1,0,none⟩ c old ((asX t 153 w).alloc (.cells #[.int .i64 c] 131))
  (by rw [World.cell?_alloc_at _ _ _ _ (by simp)];rfl)
  (by rw [World.cell?_alloc_lt _ _ t (by simp;omega),World.cell?_alloc_lt _ _ t (by simp;omega),World.cell?_alloc_lt _ _ t (by simp;omega),World.cell?_alloc_lt _ _ t htl];exact ht0)
  (by rw [World.frozen?_alloc_old _ _ t (by simp;omega),World.frozen?_alloc_old _ _ t (by simp;omega),World.frozen?_alloc_old _ _ t (by simp;omega),World.frozen?_alloc_old _ _ t (Nat.ne_of_lt htl)];exact hf0)
 exact Kbr
theorem Qkz (w : World) : (ReflectliteType.relation "AssignableTo" ReflectliteType.assignableTo #[rty 131, rtv 146]).run Tryz.prog w = .ok (.bool false) w := by kernel_rfl
set_option maxHeartbeats 4000000 in
theorem as_miss (c:Int)(t:Addr)(w:World)(hg:w.cell? ⟨0,0,none⟩=some Qmv) :
 Calls prog 71 #[Qog c,.iface 148 (.pointer (some t))] w fun ev w'=>ev=.returned (.bool false)∧w'=asX t 148 w:=by
 have h6:=@run_callFunc_extern prog 123 _ (fun args=>ReflectliteValue.unpack (args.getD 0 (.tuple #[]))) func123 (by kernel_rfl) (by kernel_rfl) (by kernel_rfl) (by kernel_rfl)
 have h7 := @run_callFunc_extern Tryz.prog 124 _ (ReflectliteValue.methodAny (ReflectliteValue.valueError "reflectlite.Value.Type" 0) (fun t _ _ _ => ReflectliteType.toType t)) Tryz.func124 (by kernel_rfl) (by kernel_rfl) (by kernel_rfl) (by kernel_rfl)
 have h8 := @run_callFunc_extern Tryz.prog 125 _ (ReflectliteValue.method (ReflectliteValue.valueError "reflectlite.Value.IsNil" 0) ReflectliteValue.isNil) Tryz.func125 (by kernel_rfl) (by kernel_rfl) (by kernel_rfl) (by kernel_rfl)
 have h27:=@run_callFunc_extern prog 231 _ (ReflectliteType.abiMethod fun t=>do pure (.int .u8 (←Rtype.kind t))) func231 (by kernel_rfl) (by kernel_rfl) (by kernel_rfl) (by kernel_rfl);have h37:=@run_callFunc_extern prog 243 _ (ReflectliteType.method ReflectliteType.elem) func243 (by kernel_rfl) (by kernel_rfl) (by kernel_rfl) (by kernel_rfl)
 have h38 := @run_callFunc_extern Tryz.prog 244 _ (ReflectliteType.relation "Implements" ReflectliteType.implements_) Tryz.func244 (by kernel_rfl) (by kernel_rfl) (by kernel_rfl) (by kernel_rfl)
 have h10:=@run_callFunc_extern prog 121 _ ReflectliteType.typeOf func121 (by kernel_rfl) (by kernel_rfl) (by kernel_rfl) (by kernel_rfl)
 have h35 := @run_callFunc_extern Tryz.prog 241 _ (ReflectliteType.relation "AssignableTo" ReflectliteType.assignableTo) Tryz.func241 (by kernel_rfl) (by kernel_rfl) (by kernel_rfl) (by kernel_rfl)
 have h11 := @run_callFunc_extern Tryz.prog 167 _ (ReflectliteValue.method (ReflectliteValue.valueError "reflectlite.Value.Elem" 0) ReflectliteValue.elem) Tryz.func167 (by kernel_rfl) (by kernel_rfl) (by kernel_rfl) (by kernel_rfl)
 have h12:=@run_callFunc_extern prog 168 _ ReflectliteValue.set func168 (by kernel_rfl) (by kernel_rfl) (by kernel_rfl) (by kernel_rfl);have mA:=Qdt;have mK:=Qnh;have mE:=Qmk;have mI:=Qem;have tO:=Qmc;have aS:=Qkz;have f6:=Qis;have f7:=Qoc;have kP:=Qoe;have kE:=Qsr;have eL:=Qtf;have iM:=Qgr;have nA:=er_noAs;have nU:=Qqu;have nV:=Qnu;have n8:=Qou ⟨w.heap.size,0,none⟩ t (asW t 148 w) (by simp);have hlt:0<w.heap.size:=Qaj hg
 have hg2:(asW t 148 w).cell? ⟨0,0,none⟩=some Qmv:=by
  exact Kbk
 exact Kbr
end Go.Proofs.YtdheeddnkdhfeaaGreatDoor
namespace Go.Proofs.YtdheeddnkdhfeaaGreatDoor
open Go.RowKit Go.Extern.Stop Go.Stop Go.Extern Go.Proofs.Tryz
theorem Qee (t:Addr)(p:Nat)(w:World):Below w.heap.size w (asX t p w):=Qah
theorem as_fault (b o g:Nat)(old:Value)(w:World)(hg:w.cell? ⟨0,0,none⟩=some Qmv)(ht0:w.cell? ⟨g,0,none⟩=some old)(hf0:w.frozen? ⟨g,0,none⟩=false) :
 Calls prog 71 #[fltV b o,.iface 148 (.pointer (some ⟨g,0,none⟩))] w fun ev w'=>ev=.returned (.bool true)∧w'.cell? ⟨g,0,none⟩=some (.pointer (some ⟨b,o,none⟩))∧Below g w w' :=
 (as_hitF ⟨b,o,none⟩ ⟨g,0,none⟩ old w hg ht0 hf0).mono fun e w' ⟨he,hw⟩=>by
  have hlt:=Qaj ht0;have hb:Below g w (asX ⟨g,0,none⟩ 148 w):=(Qee _ _ w).mono (Nat.le_of_lt hlt);have hb2:Below g w ((asX ⟨g,0,none⟩ 148 w).alloc (.cells #[.pointer (some ⟨b,o,none⟩)] 146)):=hb.alloc (Yx (Nat.le_of_lt hlt) (Qee _ _ w).size) _;refine ⟨he,?_,?_⟩
  · rw [hw]
    have hc:((asX ⟨g,0,none⟩ 148 w).alloc (.cells #[.pointer (some ⟨b,o,none⟩)] 146)).cell? ⟨g,0,none⟩=some old :=
     Zc (Bel.alloc (Qee ⟨g,0,none⟩ 148 w)) (Zn _) ht0
    exact World.cell?_setCell_same _ _ _ hc
  · rw [hw];exact hb2.setCell (Zn _) _
theorem as_errno (c:Int)(g:Nat)(old:Value)(w:World)(hg:w.cell? ⟨0,0,none⟩=some Qmv)(ht0:w.cell? ⟨g,0,none⟩=some old)(hf0:w.frozen? ⟨g,0,none⟩=false) :
 Calls prog 71 #[Qog c,.iface 153 (.pointer (some ⟨g,0,none⟩))] w fun ev w'=>ev=.returned (.bool true)∧w'.cell? ⟨g,0,none⟩=some (.int .i64 c)∧Below g w w' :=
 (as_hitE c ⟨g,0,none⟩ old w hg ht0 hf0).mono fun e w' ⟨he,hw⟩=>by
  have hlt:=Qaj ht0;have hb:Below g w (asX ⟨g,0,none⟩ 153 w):=(Qee _ _ w).mono (Nat.le_of_lt hlt);have hb2:Below g w ((asX ⟨g,0,none⟩ 153 w).alloc (.cells #[.int .i64 c] 131)):=hb.alloc (Yx (Nat.le_of_lt hlt) (Qee _ _ w).size) _;refine ⟨he,?_,?_⟩
  · rw [hw]
    have hc:((asX ⟨g,0,none⟩ 153 w).alloc (.cells #[.int .i64 c] 131)).cell? ⟨g,0,none⟩=some old :=
     Zc (Bel.alloc (Qee ⟨g,0,none⟩ 153 w)) (Zn _) ht0
    exact World.cell?_setCell_same _ _ _ hc
  · rw [hw];exact hb2.setCell (Zn _) _
theorem as_none (c:Int)(g:Nat)(w:World)(hg:w.cell? ⟨0,0,none⟩=some Qmv) :
 Calls prog 71 #[Qog c,.iface 148 (.pointer (some ⟨g,0,none⟩))] w fun ev w'=>ev=.returned (.bool false)∧Below w.heap.size w w' :=
 (as_miss c ⟨g,0,none⟩ w hg).mono fun e w' ⟨he,hw⟩=>⟨he,by rw [hw];exact Qee _ _ w⟩
theorem Qtk {w:World}{v:Value} {ps:List (ByteArray×Int)} {c:Int} {k:Nat} {p:ByteArray×Int} (hk:ps[k]?=some p) (h:Qcq w v (ps.drop k) c) :
 ∃ b o u,v=fltV b o∧w.cell? ⟨b,o,none⟩=some (.string p.1)∧w.cell? ⟨b,o+1,none⟩=some (.int .i64 p.2)∧w.cell? ⟨b,o+2,none⟩=some u∧Qcq w u (ps.drop (k+1)) c:=by
 have hlt:=(Zs hk).1;rw [List.drop_eq_getElem_cons hlt] at h;have e:ps[k]=p:=(Zs hk).2;rw [e] at h;exact h
attribute [local go_sem ↓] Go.wp_at_zero Go.wp_at_succ
set_option maxHeartbeats 4000000 in
theorem Qpg (v:Value)(A:Option Addr)(n c:Nat) (ps:List (ByteArray×Int)) (c0:Int) (w:World) (h:Qcq w v ps c0) (hr:RdW w A n ps) (hc0:c0≠0) (hg:w.cell? ⟨0,0,none⟩=some Qmv) (hn:n≤4000000000000000000) :
 Calls prog 23 #[v,.agg #[.slice A n c,.int .i64 c0]] w fun e w'=>e=.returned (.bool true)∧Below w.heap.size w w':=by
 have HI:∀ (W:World),Below w.heap.size w W→Calls prog 70 #[v,Qog c0] W fun e w'=>e=.returned (.bool true)∧w'=W:=fun W hb=>errorsIs v ps c0 W (Qcq.below hb h)
 have HI':=Zh HI;clear HI;obtain ⟨tvv,xv,hv⟩:=Qbg h;have hlt0:=Qaj hg;have HC:=Zh hc0;have HCH:=Zh h;subst hv;clear h
 go_enter func23,ntmps23
 go_wp2_with fail
 with_reducible refine (HI'.out _ Qah).mono ?_
 rintro e w' ⟨rfl,rfl⟩;clear HI'
 go_wp2_with fail
 (refine Qai ?_;intro w1 hw1)
 have hb1:Below w.heap.size w w1:=by rw [hw1];exact Qah
 have hx0:w1.cell? ⟨w.heap.size,0,none⟩=some (.slice A n c):=by rw [hw1];simp
 have hx1:w1.cell? ⟨w.heap.size,1,none⟩=some (.int .i64 c0):=by rw [hw1];simp
 have hg1:w1.cell? ⟨0,0,none⟩=some Qmv:=Zc hb1 (Zn _) hg;have hr1:=hr.below hb1;have hch:=Qcq.below hb1 HCH.out;have HCH1:=Zh hch;clear hch HCH hr hw1 hg
 go_loopw [0,5] (fun u i W=>∃ (k:Nat),k≤n∧i=.int .i64 k∧Qcq W u (ps.drop k) c0∧Below w1.heap.size w1 W) (fun _ i _=>n-(intOf i).toNat)
 case atStart=>exact ⟨0,Nat.zero_le _,rfl,HCH1.out,Zr _ _⟩
 case round =>
  obtain ⟨k,hk,rfl,hch,hbl⟩:=hrel;have y0:=Zc hbl (Zn _) hx0
  by_cases hlt:k<n
  · have hlen:=hr1.1
    obtain ⟨p,hp⟩:∃ p,ps[k]?=some p:=⟨ps[k],Zg (by omega)⟩;obtain ⟨pb,po,rfl,hp1,hp2⟩:=hr1.2 k p hp;obtain ⟨b,o,u,rfl,hc1,hc2,hc3,hc4⟩:=Qtk hp hch;obtain ⟨tu,xu,hu⟩:=Qbg hc4;have HP:=Zh hp;have H4:=Zh hc4;have z:=hbl.size;clear hp hch hlen hc4;subst hu;obtain ⟨s,q0⟩:=p
    go_wp2_with fail
    (refine Qai ?_;intro W5 hW5)
    have hb5:Below w1.heap.size w1 W5:=by rw [hW5];exact Qah
    have hbr:Below wr.heap.size wr W5:=by rw [hW5];exact Qah
    have ht5:W5.cell? ⟨wr.heap.size,0,none⟩=some (.pointer none):=by rw [hW5];simp
    have hf5:W5.frozen? ⟨wr.heap.size,0,none⟩=false:=by rw [hW5];simp
    have hg5:=Zc hb5 (Zn _) hg1;have hz5:=Qaj ht5
    have HA:∀ V,Below W5.heap.size W5 V→Calls prog 71 #[fltV b o,.iface 148 (.pointer (some ⟨wr.heap.size,0,none⟩))] V fun ev w'=>ev=.returned (.bool true)∧w'.cell? ⟨wr.heap.size,0,none⟩=some (.pointer (some ⟨b,o,none⟩))∧Below wr.heap.size W5 w':=fun V hV =>
     (as_fault b o wr.heap.size _ V (Zc hV (Zn _) hg5) (Zc hV (Zn _) ht5) ((Below.frozenOf hV hz5).trans hf5)).mono fun _ _ ⟨h1,h2,h3⟩=>⟨h1,h2,(hV.mono (Nat.le_of_lt hz5)).trans h3⟩
    have HA':=Zh HA;clear HA;clear hW5 hf5 hg5;refine wp_region_held_drew (S:=fun _=>True) (by kernel_rfl) trivial (fun _=>?_);refine tz 0 31 ?_;refine tz 1 32 ?_;refine Zk 2 (fun K hK=>?_);go_simp
    go_at_call 71
    with_reducible refine (HA'.out _ Qah).mono ?_
    rintro e w6 ⟨rfl,ht6,hb6⟩;have hb7:Below wr.heap.size wr w6:=hbr.trans hb6;have c6:=Zc hb7 (Zn _) hc1;have d6:=Zc hb7 (Zn _) hc2;have e6:=Zc hb7 (Zn _) hc3;have y6:=Zc hb7 (Zn _) y0;have p6:=Zc hb7 (Zn _) (Zc hbl (Zn _) hp1);have q6:=Zc hb7 (Zn _) (Zc hbl (Zn _) hp2)
    go_wp2_with fail
    refine hK.out _ _ trivial (fun _=>?_);clear hK K;refine Qke (S':=fun V=>V=w6) (fun _ _=>trivial) _ _ _ _ ?_;have i1:(0:Int)≤(k:Int):=by omega
    have i2:(k:Int)<(n:Int):=by omega
    clear hc1 hc2 hc3 y0 hp1 hp2 HA' hx1 hb5 hbr ht5 hz5;refine tz 3 34 ?_;refine tz 4 35 ?_;refine tz 5 36 ?_;refine tz 6 37 ?_;refine tz 7 38 ?_;refine tz 8 39 ?_;refine tz 9 40 ?_;refine tz 10 41 ?_;refine tz 11 42 ?_;refine tz 12 43 ?_;refine tz 13 44 ?_;refine tz 14 45 ?_;refine tz 15 46 ?_;refine tz 16 47 ?_;refine tz 17 48 ?_;refine tz 18 49 ?_;refine tz 19 50 ?_;refine tz 20 51 ?_;refine tz 21 52 ?_;refine tz 22 53 ?_;refine tz 23 54 ?_;refine tz 24 55 ?_;refine tz 25 56 ?_;refine tz 26 57 ?_;refine tz 27 58 ?_;refine tz 28 59 ?_;refine tz 29 60 ?_;refine tz 30 61 ?_;refine tz 31 62 ?_;refine tz 32 63 ?_;refine tz 33 64 ?_;refine Zd ?_
    go_wp2_with fail
    exact ⟨⟨k+1,by omega,by go_num,Qcq.below hb7 H4.out,Zb hbl hb7⟩,by simp [intOf];omega⟩
  · obtain rfl:k=n:=by omega
    rw [List.drop_of_length_le (by have:=hr1.1;omega)] at hch;unfold Qcq at hch;subst hch;have x1:=Zc hbl (Zn _) hx1;have gr:=Zc hbl (Zn _) hg1;have z:=hbl.size;clear hx0 hr1 hx1
    go_wp2_with fail
    (refine Qae ?_;intro W5 hW5)
    have hbr:Below wr.heap.size wr W5:=by rw [hW5];exact Qah
    have ht5:W5.cell? ⟨wr.heap.size+1,0,none⟩=some (.int .i64 0):=by rw [hW5];simp
    have hf5:W5.frozen? ⟨wr.heap.size+1,0,none⟩=false:=by rw [hW5];simp
    have g5:=Zc hbr (Zn _) gr;have z5:=Qaj ht5;clear hW5;with_reducible refine (as_none c0 wr.heap.size _ g5).mono ?_
    rintro e w6 ⟨rfl,hb6⟩;have hb56:=hbr.trans (hb6.mono hbr.size)
    go_wp2_with fail
    with_reducible refine (as_errno c0 (wr.heap.size+1) _ _ (Zc hb6 (Zn _) g5) (Zc hb6 (Zn _) ht5) ((Below.frozenOf hb6 z5).trans hf5)).mono ?_
    rintro e w7 ⟨rfl,ht7,hb7⟩;have hb8:Below wr.heap.size wr w7:=hb56.trans (hb7.mono (Nat.le_succ _));have x7:=Zc hb8 (Zn _) x1;clear hb6 hb7 hb56 ht5 hf5
    go_wp2_with fail
    go_ret
    exact ⟨rfl,Qah⟩
end Go.Proofs.YtdheeddnkdhfeaaGreatDoor
namespace Go.Proofs.YtdheeddnkdhfeaaGreatDoor
open Go.RowKit Go.Proofs.Tryz
attribute [local go_sem ↓] Go.wp_at_zero Go.wp_at_succ
set_option maxHeartbeats 1000000 in
theorem Qio (A B:Option Addr)(n m c d:Nat)(l l2:List Int)(w:World)(h:RdI w A n l)(h2:RdI w B m l2)(hn:n≤1000000000)(hm:m≤1000000000) :
 Calls prog 54 #[.slice A n c,.slice B m d] w fun e w'=>e=.returned (.bool (decide (l=l2)))∧∃ k,w'=w.drewN k:=by
 have HR:=Zh h;have HR2:=Zh h2;have HL:=Zh h.1;have HL2:=Zh h2.1;clear h h2
 by_cases hnm:n=m
 rotate_left
 · have e1:((n:Int) != (m:Int))=true:=by simp;omega
   have e2:((n:Int) == (m:Int))=false:=by simp;omega
   have HD:=Zh (show decide (l=l2)=false from decide_eq_false (fun e=>hnm (by rw [←HL.out,←HL2.out,e])))
   go_enter func54,ntmps54
   go_wp2_with fail
   go_ret
   exact ⟨Qbf HD.out.symm,0,rfl⟩
 subst hnm
 go_enter func54,ntmps54
 go_wp2_with fail
 go_loopw [5] (fun q W=>(∃ k,W=w.drewN k)∧∃ i:Nat,i≤n∧q=.int .i64 i∧∀ j,j<i→l[j]?=l2[j]?) (fun q _=>n-(intOf q).toNat)
 case atStart=>exact ⟨⟨0,rfl⟩,0,Nat.zero_le _,rfl,fun _ h=>absurd h (Nat.not_lt_zero _)⟩
 case round =>
  obtain ⟨hd,i,hi,rfl,hall⟩:=hrel;have HD:=Zh hd;have HA:=Zh hall;clear hall
  by_cases hlt:i<n
  · obtain ⟨b,o,x,rfl,hx,hc⟩:=HR.out.at_ hlt
    obtain ⟨b',o',y,rfl,hy,hc'⟩:=HR2.out.at_ hlt;have hc1:wr.cell? ⟨b,o+i,none⟩=some (.int .i64 x):=by obtain ⟨k,rfl⟩:=hd;exact hc
    have hc2:wr.cell? ⟨b',o'+i,none⟩=some (.int .i64 y):=by obtain ⟨k,rfl⟩:=hd;exact hc'
    have HX:=Zh hx;have HY:=Zh hy;have i1:(0:Int)≤(i:Int):=by omega
    have i2:(i:Int)<(n:Int):=by omega
    clear hx hy hc hc' hd
    by_cases e:x=y
    · subst e
      go_wp2_with fail
      go_quiet (fail)
      go_wp2_with fail
      go_roundw
      case rel =>
       obtain ⟨k,e⟩:=HD.out;refine ⟨⟨k+nq,by rw [e,World.drewN_drewN]⟩,i+1,by omega,by go_num,fun j hj=>?_⟩
       by_cases ej:j=i
       · subst ej
         rw [HX.out,HY.out]
       · exact HA.out j (by omega)
      case measure=>simp [intOf];omega
    · have e1:(x != y)=true:=by simpa using e
      have e2:(x == y)=false:=by simpa using e
      have HN:=Zh (show decide (l=l2)=false from decide_eq_false (fun ee=>by
       have:=HX.out;rw [ee,HY.out] at this;exact e (Yv this).symm))
      have HE:=Zh e;clear e
      go_wp2_with fail
      go_quiet (fail)
      go_wp2_with fail
      go_ret
      obtain ⟨k,e⟩:=HD.out;exact ⟨Qbf HN.out.symm,k+nq,by rw [e,World.drewN_drewN]⟩
  · obtain rfl:n=i:=by omega
    have HE:=Zh (show decide (l=l2)=true from decide_eq_true (List.ext_getElem? (fun j=>by
     rcases Nat.lt_or_ge j n with h|h
     · exact HA.out j h
     · rw [Yd (by rw [HL.out];exact h),Yd (by rw [HL2.out];exact h)])))
    clear hd
    go_wp2_with fail
    go_ret
    exact ⟨Qbf HE.out.symm,HD.out⟩
end Go.Proofs.YtdheeddnkdhfeaaGreatDoor
