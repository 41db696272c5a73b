/- Parts of the proof: AsZ, AsW. -/
import Derived.Test.YteaoiabikjnkeaaGreatDoorM1
import Derived.Test.YteaoiabikjnkeaaGreatDoorM32
import Derived.Test.YteaoiabikjnkeaaGreatDoorM34
import Derived.Test.YteaoiabikjnkeaaGreatDoorM35
import Derived.Test.YteaoiabikjnkeaaGreatDoorM37
namespace Go.Proofs.YteaoiabikjnkeaaGreatDoor
open Go.RowKit
attribute [local go_sem ↓] Go.wp_at_zero Go.wp_at_succ
section
variable (A B C Q G AE:Option Addr) (n m k c d e L cq cg S ce:Nat) (N:Qao) (ls:List (List Int)) (EL:List Ent) (CA:Option Addr) (NC cC:Nat) (cl:List Int)
structure HopsP (s t:Nat) (M:List Qma) (atF smF:Nat→Int) (cc:Int):Prop where
 pos:0<M.length
 a0:atF 0=(s:Int)
 an:atF M.length=(t:Int)
 s0:smF 0=0
 sn:smF M.length=cc
 st:∀ (i x1 x2 x3:Nat),M[i]?=some (x1,x2,x3)→(x2:Int)=atF i∧x2<N.ar.length∧x3<N.ar.length∧atF (i+1)=(x3:Int)∧(x1:Int)=lvI N.vs.length ls (toV N x2) (toV N s) (frV N t)∧(0≤smF i∧smF i≤1152921504606846976)∧∀ v,Qob N ls (x1:Int) (x2:Int) (x3:Int) v→(0≤v∧v≤1152921504606846976)∧Qdw (smF i) v=smF (i+1)
set_option maxRecDepth 20000 in
set_option maxHeartbeats 4000000 in
theorem Quz (s t:Nat)(cc:Int)(A9:Option Addr)(n9 c9:Nat)(M:List Qma)(atF smF:Nat→Int)(xs xt:Tri)(w:World)(h:Qbv w A B C n m k N)(hok:Qau N)(hP:Qay N.vs.length ls)(hO:OvD w Q G AE L S N ls EL)(hc:RdI w CA NC cl)(hA:Qdo N ls cl)
 (hM:RdH w A9 n9 M) (hn9:n9≤16384) (hxs:N.ar[s]?=some xs) (hxt:N.ar[t]?=some xt) (hne:s≠t) (hcc:cc≠1152921504606846976) (hH:HopsP N ls s t M atF smF cc) :
 Calls Tryz.prog 55 #[.agg #[.slice A n c,.slice B m d,.slice C k e],.agg #[.slice A n c,.slice B m d,.slice C k e,.slice Q L cq,.slice G L cg,.slice AE S ce],.slice CA NC cC,.int .i64 s,.int .i64 t,.int .i64 cc,.slice A9 n9 c9] w fun r w'=>r=.returned (.bool true)∧Below w.heap.size w w':=by
 have HNV:=Zh (show N.vs.length=n from h.1.1)
 have HNA:=Zh (show N.ar.length=m from h.2.1.1)
 have hm:m≤16384:=by rw [←h.2.1.1]; exact hok.la
 have HPR:=Zh (fun (lv f u:Int) V (hV:Below w.heap.size w V)=>Qqs A B C Q G AE n m k c d e L cq cg S ce (.slice A n c) (.slice B m d) (.slice C k e) N ls EL CA NC cC cl lv f u V (h.below hV) hok hP (hO.below hV) (hc.below hV) hA);have HLE:=Zh (fun (v a b:Int) V (hV:Below w.heap.size w V)=>Qrh A Q n c L cq (.slice B m d) (.slice C k e) (.slice G L cg) (.slice AE S ce) ls v a b V (hO.q.below hV) (by rw [←h.1.1]; exact hP));have HTH:=Zh (fun (x:Nat) (hx:x<m) V=>Qcd A B C n m k c d e (x:Int) V (by omega) (by omega));have HMM:=Zh hM;have HNET:=Zh h;have HH:=Zh hH;have HN9:=Zh hM.1;have HXS:=Zh hxs;have HXT:=Zh hxt;have i1:(cc == 1152921504606846976)=false:=by simpa using hcc
 have i2:((s:Int) == (t:Int))=false:=by simp; omega
 clear h hok hP hO hc hA hM hxs hxt hne hH
 go_enter Tryz.func55,Tryz.ntmps55
 go_wp2_with fail
 (refine Qaj ?_; intro w1 hw1)
 have HB1:=Zh (show Below w.heap.size w w1 by rw [hw1]; exact Qah)
 have HX:=Zh (show Blk w1 w.heap.size 26 #[.slice A n c,.slice B m d,.slice C k e] by rw [hw1]; exact Qba)
 have HY:=Zh (show Blk w1 (w.heap.size+1) 40 #[.slice A n c,.slice B m d,.slice C k e,.slice Q L cq,.slice G L cg,.slice AE S ce] by rw [hw1]; exact Qba)
 clear hw1
 go_loopw [15,16,17] (fun ua us q W=>∃ i:Nat,i≤n9∧q=.int .i64 i∧ua=.int .i64 (atF i)∧us=.int .i64 (smF i)∧Below w1.heap.size w1 W) (fun _ _ q _=>n9-(intOf q).toNat)
 case atStart=>exact ⟨0,Nat.zero_le _,rfl,by rw [HH.out.a0],by rw [HH.out.s0],Zr _ _⟩
 case round =>
  obtain ⟨i,hi,rfl,rfl,rfl,hbl⟩:=hrel;have HBL:=Zh hbl
  by_cases hlt:i<n9
  rotate_left
  · obtain rfl:n9=i:=by omega
    have e1:atF n9=(t:Int):=by rw [←HN9.out]; exact HH.out.an
    have e2:smF n9=cc:=by rw [←HN9.out]; exact HH.out.sn
    have e3:0<n9:=by rw [←HN9.out]; exact HH.out.pos
    have e4:(0:Int)<(n9:Int):=by omega
    rw [e1,e2];clear hbl e1 e2
    go_wp2_with fail
    go_ret
    exact ⟨rfl,Zb HB1.out HBL.out⟩
  obtain ⟨⟨x1,x2,x3⟩,hx⟩:∃ x,M[i]?=some x:=⟨_,Zg (by rw [HN9.out]; exact hlt)⟩;obtain ⟨g1,g2,g3,g4,g5,g6,g7⟩:=HH.out.st i x1 x2 x3 hx;have hbw:=Zb HB1.out hbl;obtain ⟨b9,o9,hA9,k0,k1,k2⟩:=(HMM.out.le (Le.below hbw)).2 i _ hx;simp only at k0 k1 k2;obtain ⟨y,hy⟩:∃ y,N.ar[x2]?=some y:=⟨_,Zg g2⟩;have hx2m:x2<m:=by rw [←HNA.out]; exact g2
  have hx3m:x3<m:=by rw [←HNA.out]; exact g3
  have hsm:s<m:=by rw [←HNA.out]; exact (Zs HXS.out).1
  have htm:t<m:=by rw [←HNA.out]; exact (Zs HXT.out).1
  obtain ⟨ab,ao,hB,_,d1,_⟩:=(HNET.out.below hbw).2.1.2 x2 y hy;obtain ⟨_,_,e1,_,s1,_⟩:=(HNET.out.below hbw).2.1.2 s xs HXS.out;rw [hB] at e1
  cases e1
  obtain ⟨_,_,e1,t1,_,_⟩:=(HNET.out.below hbw).2.1.2 t xt HXT.out;rw [hB] at e1
  cases e1
  subst hB;rw [←g1];have HAT:=Zh g1;have HA1:=Zh g4;have HSM:=Zh g6;have HAD:=Zh g7;have HLV:=Zh (show (x1:Int)=lvI n ls y.2.1 xs.2.1 xt.1 by rw [g5,(Qbn hy).1,(Qbn HXS.out).1,(Qbn HXT.out).2.1,HNV.out])
  have HTH3:=Zh (fun V=>HTH.out x3 hx3m V);have j1:(i:Int)<(n9:Int):=by omega
  have j2:(0:Int)≤(i:Int):=by omega
  have j3:(x2:Int)<(m:Int):=by omega
  have j4:(0:Int)≤(x2:Int):=by omega
  have j5:(s:Int)<(m:Int):=by omega
  have j6:(0:Int)≤(s:Int):=by omega
  have j7:(t:Int)<(m:Int):=by omega
  have j8:(0:Int)≤(t:Int):=by omega
  have j9:((x2:Int) != (x2:Int))=false:=by simp
  have ja:((x1:Int) != (x1:Int))=false:=by simp
  clear g1 g2 g3 g4 g5 g6 g7 hbl;obtain ⟨sa,hsa⟩:∃ sa,sa=smF i:=⟨_,rfl⟩;rw [←hsa];have HSA:=Zh hsa;clear hsa;subst hA9
  go_wp2_with fail
  (refine Qaj ?_; intro w2 hw2)
  have hb2:Below wr.heap.size wr w2:=by rw [hw2]; exact Qah
  have HZ:=Zh (show Blk w2 wr.heap.size 58 #[.int .i64 (x1:Int),.int .i64 (x2:Int),.int .i64 (x3:Int)] by rw [hw2]; refine Blk.new' _ _ _ ?_; rfl)
  clear hw2;have HBL2:=Zh (Zb HBL.out hb2)
  have HSX:=Zh (show ∀ V,Below w2.heap.size w2 V→V.cell? ⟨w.heap.size,0,none⟩=some (.slice A n c)∧V.cell? ⟨w.heap.size,1,none⟩=some (.slice (some ⟨ab,ao,none⟩) m d)∧V.cell? ⟨w.heap.size,2,none⟩=some (.slice C k e) ∧
   V.cell? ⟨w.heap.size+1,0,none⟩=some (.slice A n c)∧V.cell? ⟨w.heap.size+1,1,none⟩=some (.slice (some ⟨ab,ao,none⟩) m d)∧V.cell? ⟨w.heap.size+1,2,none⟩=some (.slice C k e)∧V.cell? ⟨w.heap.size+1,3,none⟩=some (.slice Q L cq)∧V.cell? ⟨w.heap.size+1,4,none⟩=some (.slice G L cg)∧V.cell? ⟨w.heap.size+1,5,none⟩=some (.slice AE S ce) ∧
   V.cell? ⟨wr.heap.size,0,none⟩=some (.int .i64 (x1:Int))∧V.cell? ⟨wr.heap.size,1,none⟩=some (.int .i64 (x2:Int))∧V.cell? ⟨wr.heap.size,2,none⟩=some (.int .i64 (x3:Int)) ∧
   V.cell? ⟨ab,ao+x2*3+1,none⟩=some (.int .i64 y.2.1)∧V.cell? ⟨ab,ao+s*3+1,none⟩=some (.int .i64 xs.2.1)∧V.cell? ⟨ab,ao+t*3,none⟩=some (.int .i64 xt.1) from fun V hV=>by
   have hV':=Zb HBL2.out hV;have hX':=HX.out.below hV' HX.out.lt;have hY':=HY.out.below hV' HY.out.lt;have hZ':=HZ.out.below hV HZ.out.lt;have hVr:=Zb hb2 hV
   exact ⟨by rw [hX'.cell]; rfl,by rw [hX'.cell]; rfl,by rw [hX'.cell]; rfl,by rw [hY'.cell]; rfl,by rw [hY'.cell]; rfl,by rw [hY'.cell]; rfl,by rw [hY'.cell]; rfl,by rw [hY'.cell]; rfl,by rw [hY'.cell]; rfl,by rw [hZ'.cell]; rfl,by rw [hZ'.cell]; rfl,by rw [hZ'.cell]; rfl,
    Zc hVr (Zn _) d1,Zc hVr (Zn _) s1,Zc hVr (Zn _) t1⟩)
  clear hb2 d1 s1 t1 k0 k1 k2 hbw hx hy
  go_wp2_with fail
  refine wp_region_held_drew (S:=fun V=>Below w2.heap.size w2 V) (by kernel_rfl) (Zr _ _).drew (fun _=>?_);refine tz 0 40 ?_;refine tz 1 41 ?_;refine tz 2 42 ?_;refine tz 3 43 ?_;refine tz 4 44 ?_;refine tz 5 45 ?_;refine tz 6 46 ?_;refine tz 7 47 ?_;refine Zk 8 (fun K hK=>?_);go_simp;with_reducible refine (HTH3.out _).mono ?_
  rintro r w3 ⟨rfl,hb3⟩;have hb3':Below w2.heap.size w2 w3:=(Zr _ _).drew.trans hb3;go_simp;refine hK.out _ _ hb3' (fun _=>?_);clear hK K hb3;refine tz 9 49 ?_;refine tz 10 50 ?_;refine tz 11 51 ?_;refine tz 12 52 ?_;refine tz 13 53 ?_;refine tz 14 54 ?_;refine tz 15 55 ?_;refine tz 16 56 ?_;refine tz 17 57 ?_;refine tz 18 58 ?_;refine tz 19 59 ?_;refine tz 20 60 ?_;refine tz 21 61 ?_;refine tz 22 62 ?_;refine tz 23 63 ?_;refine tz 24 64 ?_;refine tz 25 65 ?_;refine tz 26 66 ?_;refine tz 27 67 ?_;refine tz 28 68 ?_;refine tz 29 69 ?_;refine tz 30 70 ?_;refine tz 31 71 ?_;refine tz 32 72 ?_;refine Zk 33 (fun K hK=>?_);go_simp;have HLEV:=Zh (HLE.out y.2.1 xs.2.1 xt.1 w3 (Zb HB1.out (Zb HBL2.out hb3')));rw [←HLV.out] at HLEV;with_reducible refine HLEV.out.mono ?_
  rintro r w4 ⟨rfl,hb4⟩;have hb4':Below w2.heap.size w2 w4:=Zb hb3' hb4;go_simp;refine hK.out _ _ hb4' (fun _=>?_);clear hK K hb4 HLEV;refine tz 34 74 ?_;refine tz 35 75 ?_;refine wpAnyH_done (by kernel_rfl) ?_ _;obtain ⟨v0,v1,v2,v3,v4,v5,v6,v7,v8,v9,va,vb,_,_,_⟩:=HSX.out w4 hb4';have HB4:=Zh hb4';clear hb3' hb4' HSX
  go_wp2_with fail
  with_reducible refine (HPR.out x1 x2 x3 w4 (Zb HB1.out (Zb HBL2.out HB4.out))).mono ?_
  unfold PrR;rintro r w5 ⟨⟨v,rfl,hv⟩,hb5⟩;obtain ⟨hv1,hv2⟩:=HAD.out v hv;have HAV:=Zh hv2;have hb5':=Zb HB4.out hb5;have HADD:=Zh (Qgb sa v w5 (by rw [HSA.out]; exact HSM.out) hv1);have vb5:=((HZ.out.below hb5' HZ.out.lt).three).2.2;have HB5:=Zh (Zb HBL2.out hb5');clear hv hv1 hv2 hb5 hb5' v0 v1 v2 v3 v4 v5 v6 v7 v8 v9 va vb
  go_wp2_with fail
  with_reducible refine HADD.out.mono ?_
  rintro r w' ⟨rfl,rfl⟩
  go_wp2_with fail
  go_roundw
  case rel=>exact ⟨i+1,by omega,by go_num,by rw [HA1.out],by rw [←HAV.out,HSA.out],HB5.out⟩
  case measure=>simp [intOf]; omega
end
theorem Qyz:(Tryz.prog.info? 157).map (fun i=>(i.zero,i.size,i.bytes))=some (some (.agg #[.int .i64 0,.int .i64 0,.int .i64 0]),3,24):=by kernel_rfl
theorem infoCA:(Tryz.prog.info? 152).map (fun i=>(i.zero,i.size,i.bytes))=some (some (.agg #[.int .i64 0,.int .i64 0,.int .i64 0]),3,24):=by kernel_rfl
structure ChS (g:Nat) (c3:Value) (w1 W:World) (i j:Nat) (V A:Option Addr) (cv ca:Nat):Prop where
 bel:Below g w1 W
 box:Blk W g 26 #[.slice V i cv,.slice A j ca,c3]
 v:Own W (g+1) 157 3 V i cv (Qaw (Qaq.vs.take i))
 a:Own W (g+1) 152 3 A j ca (Qaw (Qaq.ar.take j))
 d:∀ b,Qac V=some b→Qac A≠some b
theorem ChS.below {g i j cv ca:Nat}{c3:Value}{w1 W W':World}{V A:Option Addr}(h:ChS g c3 w1 W i j V A cv ca)(hb:Below W.heap.size W W'):ChS g c3 w1 W' i j V A cv ca :=
 ⟨h.bel.trans (hb.mono (Nat.le_of_lt h.box.lt)),h.box.below hb h.box.lt,h.v.below hb,h.a.below hb,h.d⟩
theorem ChS.pushV {g i j cv ca c':Nat}{c3:Value}{w1 W W':World}{V A V':Option Addr}(h:ChS g c3 w1 W i j V A cv ca) (hg:W.grownBy W' (Qac V)) (ho:Own W' (g+1) 157 3 V' (i+1) c' (Qaw (Qaq.vs.take (i+1)))) (hat:Qac V'=Qac V∨Qac V'=some W.heap.size) :
 ChS g c3 w1 (W'.setCell ⟨g,0,none⟩ (.slice V' (i+1) c')) (i+1) j V' A c' ca:=by
 have hne:Qac V≠some g:=fun e=>by have:=(h.v.lt g e).1; omega
 have hnA:Qac A≠some g:=fun e=>by have:=(h.a.lt g e).1; omega
 have hnV:Qac V'≠some g:=fun e=>by have:=(ho.lt g e).1; omega
 have hb:=h.box.grown hg hne;refine ⟨(Bel.grownOwn h.bel hg (h.v.mono (Nat.le_succ g)) (Nat.le_of_lt h.box.lt)).setCell (by simp only; omega) _,?_,ho.far (Qaa _ _ _ _) (.inr hnV),(h.a.far hg ?_).far (Qaa _ _ _ _) (.inr hnA),?_⟩
 · have:=hb.set_ 0 (.slice V' (i+1) c')
   simpa using this
 · cases hA:Qac A with
   | none=>exact .inl rfl
   | some b=>exact .inr (fun e=>h.d b e.symm hA)
 · intro b hb hA
   rcases hat with e | e
   · exact h.d b (by rw [←e]; exact hb) hA
   · have:=(h.a.lt b hA).2
     rw [e] at hb
     injection hb with hb
     omega
theorem ChS.pushA {g i j cv ca c':Nat}{c3:Value}{w1 W W':World}{V A A':Option Addr}(h:ChS g c3 w1 W i j V A cv ca) (hg:W.grownBy W' (Qac A)) (ho:Own W' (g+1) 152 3 A' (j+1) c' (Qaw (Qaq.ar.take (j+1)))) (hat:Qac A'=Qac A∨Qac A'=some W.heap.size) :
 ChS g c3 w1 (W'.setCell ⟨g,1,none⟩ (.slice A' (j+1) c')) i (j+1) V A' cv c':=by
 have hne:Qac A≠some g:=fun e=>by have:=(h.a.lt g e).1; omega
 have hnV:Qac V≠some g:=fun e=>by have:=(h.v.lt g e).1; omega
 have hnA:Qac A'≠some g:=fun e=>by have:=(ho.lt g e).1; omega
 have hb:=h.box.grown hg hne;refine ⟨(Bel.grownOwn h.bel hg (h.a.mono (Nat.le_succ g)) (Nat.le_of_lt h.box.lt)).setCell (by simp only; omega) _,?_,(h.v.far hg ?_).far (Qaa _ _ _ _) (.inr hnV),ho.far (Qaa _ _ _ _) (.inr hnA),?_⟩
 · have:=hb.set_ 1 (.slice A' (j+1) c')
   simpa using this
 · cases hV:Qac V with
   | none=>exact .inl rfl
   | some b=>exact .inr (fun e=>h.d b hV e.symm)
 · intro b hV hb
   rcases hat with e | e
   · exact h.d b hV (by rw [←e]; exact hb)
   · have:=(h.v.lt b hV).2
     rw [e] at hb
     injection hb with hb
     omega
theorem ch_vs (i:Nat)(h:i<6):∃ ty:Int,Qaq.vs[i]?=some ((i:Int),0,ty)∧(i=0→ty=1)∧(i=5→ty=2)∧(i≠0→i≠5→ty=0):=by
 rcases (by omega:i=0∨i=1∨i=2∨i=3∨i=4∨i=5) with rfl | rfl | rfl | rfl | rfl | rfl
 · exact ⟨1,rfl,by simp,by simp,by simp⟩
 · exact ⟨0,rfl,by simp,by simp,by simp⟩
 · exact ⟨0,rfl,by simp,by simp,by simp⟩
 · exact ⟨0,rfl,by simp,by simp,by simp⟩
 · exact ⟨0,rfl,by simp,by simp,by simp⟩
 · exact ⟨2,rfl,by simp,by simp,by simp⟩
theorem ch_ar (j:Nat)(h:j<5):Qaq.ar[j]?=some ((j:Int),((j+1:Nat):Int),10):=by
 rcases (by omega:j=0∨j=1∨j=2∨j=3∨j=4) with rfl | rfl | rfl | rfl | rfl <;> rfl
theorem ch_takeV {i:Nat}{x:Tri} (h:Qaq.vs[i]?=some x):Qaw (Qaq.vs.take (i+1))=Qaw (Qaq.vs.take i) ++Qaw [x]:=by rw [List.take_add_one,h,←Qdz]; rfl
theorem ch_takeA {i:Nat}{x:Tri} (h:Qaq.ar[i]?=some x):Qaw (Qaq.ar.take (i+1))=Qaw (Qaq.ar.take i) ++Qaw [x]:=by rw [List.take_add_one,h,←Qdz]; rfl
def ChnP (w:World)(r:Ending)(w':World):Prop :=
 (∃ (A B C Q:Option Addr) (a b c q:Nat),r=.returned (.tuple #[.agg #[.slice A 6 a,.slice B 5 b,.slice C 3 c],.agg #[.slice Q 1 q]])∧Qbv w' A B C 6 5 3 Qaq∧RdT w' Q 1 Qbc)∧Below w.heap.size w w'
set_option maxRecDepth 20000 in
set_option maxHeartbeats 4000000 in
theorem chain_ok (w:World):Calls Tryz.prog 36 #[] w (ChnP w):=by
 unfold ChnP
 go_enter Tryz.func36,Tryz.ntmps36
 go_wp2_with fail
 (refine Qaj ?_; intro w1 hw1)
 have HB1:=Zh (show Below w.heap.size w w1 by rw [hw1]; exact Qah)
 have HZ1:=Zh (show w1.heap.size=w.heap.size+1+1+1+1+1+1 by rw [hw1]; simp)
 have HC0:=Zh (show Blk w1 w.heap.size 26 #[.slice none 0 0,.slice none 0 0,.slice none 0 0] by rw [hw1]; exact Qba)
 have HC1:=Zh (show Blk w1 (w.heap.size+1) 29 #[.slice none 0 0] by rw [hw1]; exact Qba)
 have HC2:=Zh (show Blk w1 (w.heap.size+1+1) 2 #[.int .i64 1] by rw [hw1]; exact Qba)
 have HC4:=Zh (show Blk w1 (w.heap.size+1+1+1+1) 155 #[.int .i64 1,.int .i64 1,.slice (some ⟨w.heap.size+1+1,0,none⟩) 1 1,.int .i64 0,.int .i64 1,.slice none 0 0,.int .i64 1,.int .i64 0,.slice none 0 0] by rw [hw1]; exact Qba)
 have hN:Blk w1 (w.heap.size+1+1+1+1+1) 26 #[.slice none 0 0,.slice none 0 0,.slice (some ⟨w.heap.size+1+1+1+1,0,none⟩) 3 3]:=by rw [hw1]; exact Qba
 have HST:=Zh (show ChS (w.heap.size+1+1+1+1+1) (.slice (some ⟨w.heap.size+1+1+1+1,0,none⟩) 3 3) w1 w1 0 0 none none 0 0 from ⟨Zr _ _,hN,Own.nil _ _ _ _,Own.nil _ _ _ _,fun b hb=>by cases hb⟩)
 clear hw1 hN
 go_loopw [4] (fun q W=>∃ (i j:Nat) (V A:Option Addr) (cv ca:Nat),i≤6∧j=i-1∧q=.int .i64 i∧ChS (w.heap.size+1+1+1+1+1) (.slice (some ⟨w.heap.size+1+1+1+1,0,none⟩) 3 3) w1 W i j V A cv ca) (fun q _=>7-(intOf q).toNat)
 case atStart=>exact ⟨0,0,none,none,0,0,by omega,rfl,rfl,HST.out⟩
 case round =>
  obtain ⟨i,j,V,A,cv,ca,hi,hj,rfl,hch⟩:=hrel;have HCH:=Zh hch
  by_cases hlt:i<6
  rotate_left
  · obtain rfl:i=6:=by omega
    obtain rfl:j=5:=by omega
    clear hi hj hlt;have hbx:=hch.box;have x0:wr.cell? ⟨w.heap.size+1+1+1+1+1,0,none⟩=some (.slice V 6 cv):=by rw [hbx.cell]; rfl
    have x1:wr.cell? ⟨w.heap.size+1+1+1+1+1,1,none⟩=some (.slice A 5 ca):=by rw [hbx.cell]; rfl
    have x2:wr.cell? ⟨w.heap.size+1+1+1+1+1,2,none⟩=some (.slice (some ⟨w.heap.size+1+1+1+1,0,none⟩) 3 3):=by rw [hbx.cell]; rfl
    have hz1:=HZ1.out;have hzr:w.heap.size+1+1+1+1+1<wr.heap.size:=hbx.lt
    have hC0:Blk wr w.heap.size 26 #[.slice none 0 0,.slice none 0 0,.slice none 0 0]:=HC0.out.below hch.bel (by omega);have hC1:Blk wr (w.heap.size+1) 29 #[.slice none 0 0]:=HC1.out.below hch.bel (by omega);have hC2:=HC2.out.below hch.bel (by omega);have hC4:=HC4.out.below hch.bel (by omega);obtain ⟨W6,hW6⟩:∃ W6,W6=(((wr.setCell ⟨w.heap.size,0,none⟩ (.slice V 6 cv)).setCell ⟨w.heap.size,1,none⟩ (.slice A 5 ca)).setCell ⟨w.heap.size,2,none⟩ (.slice (some ⟨w.heap.size+1+1+1+1,0,none⟩) 3 3)).setCell ⟨w.heap.size+1,0,none⟩ (.slice (some ⟨wr.heap.size+1,0,none⟩) 1 1):=⟨_,rfl⟩;have hz6:W6.heap.size=wr.heap.size:=by rw [hW6]; simp [World.setCell]
    have HC0':=Zh (show Blk W6 w.heap.size 26 #[.slice V 6 cv,.slice A 5 ca,.slice (some ⟨w.heap.size+1+1+1+1,0,none⟩) 3 3] by
     have h0:=((hC0.set_ 0 (.slice V 6 cv)).set_ 1 (.slice A 5 ca)).set_ 2 (.slice (some ⟨w.heap.size+1+1+1+1,0,none⟩) 3 3);rw [hW6];refine Blk.far_ (by simpa using h0) ?_ _;omega)
    have HC1':=Zh (show Blk W6 (w.heap.size+1) 29 #[.slice (some ⟨wr.heap.size+1,0,none⟩) 1 1] by
     have h1:Blk (((wr.setCell ⟨w.heap.size,0,none⟩ (.slice V 6 cv)).setCell ⟨w.heap.size,1,none⟩ (.slice A 5 ca)).setCell ⟨w.heap.size,2,none⟩ (.slice (some ⟨w.heap.size+1+1+1+1,0,none⟩) 3 3)) (w.heap.size+1) 29 #[.slice none 0 0]:=Blk.far_ (Blk.far_ (Blk.far_ hC1 (by omega) _) (by omega) _) (by omega) _;rw [hW6]
     simpa using h1.set_ 0 (.slice (some ⟨wr.heap.size+1,0,none⟩) 1 1))
    have HC2':=Zh (show Blk W6 (w.heap.size+1+1) 2 #[.int .i64 1] by rw [hW6]; exact Blk.far_ (Blk.far_ (Blk.far_ (Blk.far_ hC2 (by omega) _) (by omega) _) (by omega) _) (by omega) _)
    have HC4':=Zh (show Blk W6 (w.heap.size+1+1+1+1) 155 #[.int .i64 1,.int .i64 1,.slice (some ⟨w.heap.size+1+1,0,none⟩) 1 1,.int .i64 0,.int .i64 1,.slice none 0 0,.int .i64 1,.int .i64 0,.slice none 0 0] by rw [hW6]; exact Blk.far_ (Blk.far_ (Blk.far_ (Blk.far_ hC4 (by omega) _) (by omega) _) (by omega) _) (by omega) _)
    have HV:=Zh (show Rd3 W6 V 6 Qaq.vs by
     have h1:=hch.v;have:=((((h1.far (Qaa _ w.heap.size 0 (.slice V 6 cv)) (.inr (h1.ne (by omega)))).far (Qaa _ w.heap.size 1 (.slice A 5 ca)) (.inr (h1.ne (by omega)))).far (Qaa _ w.heap.size 2 (.slice (some ⟨w.heap.size+1+1+1+1,0,none⟩) 3 3)) (.inr (h1.ne (by omega)))).far (Qaa _ (w.heap.size+1) 0 (.slice (some ⟨wr.heap.size+1,0,none⟩) 1 1)) (.inr (h1.ne (by omega)))).rds.rd3;rw [hW6];exact this)
    have HA:=Zh (show Rd3 W6 A 5 Qaq.ar by
     have h1:=hch.a;have:=((((h1.far (Qaa _ w.heap.size 0 (.slice V 6 cv)) (.inr (h1.ne (by omega)))).far (Qaa _ w.heap.size 1 (.slice A 5 ca)) (.inr (h1.ne (by omega)))).far (Qaa _ w.heap.size 2 (.slice (some ⟨w.heap.size+1+1+1+1,0,none⟩) 3 3)) (.inr (h1.ne (by omega)))).far (Qaa _ (w.heap.size+1) 0 (.slice (some ⟨wr.heap.size+1,0,none⟩) 1 1)) (.inr (h1.ne (by omega)))).rds.rd3;rw [hW6];exact this)
    have hbr:Below w.heap.size w wr:=HB1.out.trans (hch.bel.mono (by omega));have HB6:=Zh (show Below w.heap.size w W6 by rw [hW6]; exact ((((hbr.setCell (by simp only; omega) _).setCell (by simp only; omega) _).setCell (by simp only; omega) _).setCell (by simp only; omega) _))
    have HW6:=Zh hW6;have HZ6:=Zh hz6;obtain ⟨k0,k1,k2⟩:=hC0.three;have fk0:=hC0.frozen 0;have fk1:=hC0.frozen 1;have fk2:=hC0.frozen 2;have p0:=hC1.cell 0;simp only [List.getElem?_toArray,List.getElem?_cons_zero] at p0;have fp0:=hC1.frozen 0;have kl:=hC0.lt;have pl:=hC1.lt;have xl:=hbx.lt;clear hch hbx hC0 hC1 hC2 hC4 hW6 hz6 hbr
    go_wp2_with fail
    rw [←HW6.out]
    (refine Qet ?_; intro Wf hWf)
    have hbf:Below W6.heap.size W6 Wf:=by rw [hWf]; exact Qah
    have h1:Blk Wf wr.heap.size 3 #[.int .i64 0,.int .i64 0,.int .i64 1,.int .i64 1,.int .i64 2,.int .i64 2]:=by rw [hWf,←HZ6.out]; exact Qba
    have h2:Blk Wf (wr.heap.size+1) 67 #[.slice (some ⟨wr.heap.size,0,none⟩) 6 6]:=by rw [hWf,←HZ6.out]; exact Qba
    have hB0:=HC0'.out.below hbf HC0'.out.lt;have hB1:=HC1'.out.below hbf HC1'.out.lt;have h3:=HC2'.out.below hbf HC2'.out.lt;have h4:=HC4'.out.below hbf HC4'.out.lt;obtain ⟨c0,c1,c2⟩:=hB0.three;have d0:=hB1.cell 0;simp only [List.getElem?_toArray,List.getElem?_cons_zero] at d0
    have HVf:=Zh (show Qbv Wf V A (some ⟨w.heap.size+1+1+1+1,0,none⟩) 6 5 3 Qaq from by
     refine ⟨HV.out.below hbf,HA.out.below hbf,rfl,fun i t ht=>⟨w.heap.size+1+1+1+1,0,rfl,?_⟩⟩
     match i,ht with
     | 0,ht =>
      cases ht
      exact ⟨by rw [h4.cell]; rfl,by rw [h4.cell]; rfl,some ⟨w.heap.size+1+1,0,none⟩,1,1,by rw [h4.cell]; rfl,Rds.rdI (l:=[1]) (h3.rds rfl),Zn _,by omega⟩
     | 1,ht =>
      cases ht
      exact ⟨by rw [h4.cell]; rfl,by rw [h4.cell]; rfl,none,0,0,by rw [h4.cell]; rfl,⟨rfl,fun j x hx=>by simp at hx⟩,Zn _,by omega⟩
     | 2,ht =>
      cases ht
      exact ⟨by rw [h4.cell]; rfl,by rw [h4.cell]; rfl,none,0,0,by rw [h4.cell]; rfl,⟨rfl,fun j x hx=>by simp at hx⟩,Zn _,by omega⟩
     | k+3,ht=>simp [Qaq] at ht)
    have HTf:=Zh (show RdT Wf (some ⟨wr.heap.size+1,0,none⟩) 1 Qbc from by
     refine ⟨rfl,fun i l hl=>?_⟩
     match i,hl with
     | 0,hl =>
      cases hl
      exact ⟨wr.heap.size+1,0,some ⟨wr.heap.size,0,none⟩,6,6,rfl,by rw [h2.cell]; rfl,Rds.rdI (l:=[0,0,1,1,2,2]) (h1.rds rfl),Zn _,by omega⟩
     | k+1,hl=>simp [Qbc] at hl)
    have HBf:=Zh (Zb HB6.out hbf);refine bodyPost_ret (v:=.tuple #[.agg #[.slice V 6 cv,.slice A 5 ca,.slice (some ⟨w.heap.size+1+1+1+1,0,none⟩) 3 3],.agg #[.slice (some ⟨wr.heap.size+1,0,none⟩) 1 1]]) (by simp [results,Tryz.results36,go_sem,c0,c1,c2,d0]) rfl ?_;exact ⟨⟨_,_,_,_,_,_,_,_,rfl,HVf.out,HTf.out⟩,HBf.out⟩
  have HJ:=Zh hj;obtain ⟨ty,hty,t0,t5,tm⟩:=ch_vs i hlt;have HTY:=Zh hty;have HTV:=Zh (ch_takeV hty);clear hty
  by_cases hi0:i=0
  · obtain rfl:=t0 hi0
    have hj0:j=0:=by omega
    have e0:((i:Int) == 0)=true:=by simp [hi0]
    have e5:((i:Int) == 5)=false:=by simp [hi0]
    have e6:¬(0:Int)<(i:Int):=by omega
    have HI0:=Zh hi0;have HJ0:=Zh hj0;clear t0 t5 tm hi0 hj0 hj;obtain ⟨x0,x1,x2⟩:=hch.box.three;have xl:=hch.box.lt;obtain ⟨W2,hW2⟩:∃ W2,W2=wr.alloc (.cells #[.int .i64 (i:Int),.int .i64 0,.int .i64 (1:Int)] 157):=⟨_,rfl⟩;have hb2:Below wr.heap.size wr W2:=by rw [hW2]; exact Qah
    obtain ⟨W3,hW3⟩:∃ W3,W3=W2.alloc (.cells #[.int .i64 (i:Int),.int .i64 0,.int .i64 (1:Int)] 157):=⟨_,rfl⟩;have hb3:Below W2.heap.size W2 W3:=by rw [hW3]; exact Qah
    have hb23:Below wr.heap.size wr W3:=Zb hb2 hb3;have HC3:=Zh (hch.below hb23);have hz2:W2.heap.size=wr.heap.size+1:=by rw [hW2]; simp
    have hrd:Rds W3 3 (some ⟨wr.heap.size+1,0,none⟩) 1 (Qaw [((i:Int),0,(1:Int))]):=by rw [hW3,←hz2]; exact (Blk.new W2 157 #[.int .i64 (i:Int),.int .i64 0,.int .i64 (1:Int)]).rds rfl
    have hown:=HC3.out.v;have hsz:w.heap.size+1+1+1+1+1+1≤W3.heap.size:=HC3.out.box.lt;have HW3:=Zh hW3;have HW2:=Zh hW2;clear hch hb2 hb3 hb23 hW3 hW2 hz2
    go_wp2_with (at_builtin; rw [←HW2.out,←HW3.out]; with_reducible refine Qam rfl (.tmp 26) (.tmp 28) 22 rfl 157 _ 3 24 Qyz Tryz.underlying22 rfl (by omega) rfl rfl hown hrd (Qdg _) (by omega) (by omega) hsz ?_)
    intro V' c' w4 ho4 hg4 hat4;have hB4:=HC3.out.box.grown hg4 (hown.ne (by omega));clear x0 x1 x2 xl;obtain ⟨x0,x1,x2⟩:=hB4.three;have fx0:=hB4.frozen 0;have fx1:=hB4.frozen 1;have HS4:=Zh (HC3.out.pushV hg4 (by rw [HTV.out]; exact ho4) hat4);obtain ⟨W4,hW4⟩:∃ W4,W4=w4.setCell ⟨w.heap.size+1+1+1+1+1,0,none⟩ (.slice V' (i+1) c'):=⟨_,rfl⟩;rw [←hW4] at HS4;have HW4:=Zh hW4;clear hown hrd hsz ho4 hg4 hat4 hB4 HC3 hW4
    go_wp2_with fail
    rw [←HW4.out]
    go_roundw
    case rel=>exact ⟨i+1,j,V',A,c',ca,by omega,by have:=HI0.out; have:=HJ0.out; omega,by go_num,HS4.out⟩
    case measure=>simp [intOf]; omega
  have e0:((i:Int) == 0)=false:=by simpa using hi0
  have e6:(0:Int)<(i:Int):=by omega
  have eij:(i:Int)-1=(j:Int):=by omega
  have wl:IntKind.i64.wrap (j:Int)=(j:Int):=IntWalk.i64_in _ (by omega);have hAR:=ch_ar j (by omega);rw [show ((j+1:Nat):Int)=(i:Int) by omega] at hAR
  have HTA:=Zh (ch_takeA hAR);clear hAR t0 hj
  by_cases hi5:i=5
  · obtain rfl:=t5 hi5
    have e5:((i:Int) == 5)=true:=by simp [hi5]
    clear t5 tm hi5;obtain ⟨x0,x1,x2⟩:=hch.box.three;have xl:=hch.box.lt;obtain ⟨W2,hW2⟩:∃ W2,W2=wr.alloc (.cells #[.int .i64 (i:Int),.int .i64 0,.int .i64 (2:Int)] 157):=⟨_,rfl⟩;have hb2:Below wr.heap.size wr W2:=by rw [hW2]; exact Qah
    obtain ⟨W3,hW3⟩:∃ W3,W3=W2.alloc (.cells #[.int .i64 (i:Int),.int .i64 0,.int .i64 (2:Int)] 157):=⟨_,rfl⟩;have hb3:Below W2.heap.size W2 W3:=by rw [hW3]; exact Qah
    have hb23:Below wr.heap.size wr W3:=Zb hb2 hb3;have HC3:=Zh (hch.below hb23);have hz2:W2.heap.size=wr.heap.size+1:=by rw [hW2]; simp
    have hrd:Rds W3 3 (some ⟨wr.heap.size+1,0,none⟩) 1 (Qaw [((i:Int),0,(2:Int))]):=by rw [hW3,←hz2]; exact (Blk.new W2 157 #[.int .i64 (i:Int),.int .i64 0,.int .i64 (2:Int)]).rds rfl
    have hown:=HC3.out.v;have hsz:w.heap.size+1+1+1+1+1+1≤W3.heap.size:=HC3.out.box.lt;have HW3:=Zh hW3;have HW2:=Zh hW2;clear hch hb2 hb3 hb23 hW3 hW2 hz2
    go_wp2_with (at_builtin; rw [←HW2.out,←HW3.out]; with_reducible refine Qam rfl (.tmp 26) (.tmp 28) 22 rfl 157 _ 3 24 Qyz Tryz.underlying22 rfl (by omega) rfl rfl hown hrd (Qdg _) (by omega) (by omega) hsz ?_)
    intro V' c' w4 ho4 hg4 hat4;have hB4:=HC3.out.box.grown hg4 (hown.ne (by omega));clear x0 x1 x2 xl;obtain ⟨x0,x1,x2⟩:=hB4.three;have fx0:=hB4.frozen 0;have fx1:=hB4.frozen 1;have HS4:=Zh (HC3.out.pushV hg4 (by rw [HTV.out]; exact ho4) hat4);obtain ⟨W4,hW4⟩:∃ W4,W4=w4.setCell ⟨w.heap.size+1+1+1+1+1,0,none⟩ (.slice V' (i+1) c'):=⟨_,rfl⟩;rw [←hW4] at HS4;have HW4:=Zh hW4;clear hown hrd hsz ho4 hg4 hat4 hB4 HC3 hW4;have x4l:w.heap.size+1+1+1+1+1<w4.heap.size:=by have:=HS4.out.box.lt; rw [HW4.out] at this; simpa [World.setCell] using this
    have hz4:W4.heap.size=w4.heap.size:=by rw [HW4.out]; simp [World.setCell]
    obtain ⟨W5,hW5⟩:∃ W5,W5=W4.alloc (.cells #[.int .i64 (j:Int),.int .i64 (i:Int),.int .i64 10] 152):=⟨_,rfl⟩;have hb5:Below W4.heap.size W4 W5:=by rw [hW5]; exact Qah
    have HC5:=Zh (HS4.out.below hb5);have hrd:Rds W5 3 (some ⟨w4.heap.size,0,none⟩) 1 (Qaw [((j:Int),(i:Int),10)]):=by rw [hW5,←hz4]; exact (Blk.new W4 152 #[.int .i64 (j:Int),.int .i64 (i:Int),.int .i64 10]).rds rfl
    have hown:=HC5.out.a;have hsz:w.heap.size+1+1+1+1+1+1≤W5.heap.size:=HC5.out.box.lt;have HW5:=Zh hW5;clear hb5 hW5 hz4
    go_wp2_with (at_builtin; rw [←HW4.out,←HW5.out]; with_reducible refine Qam rfl (.tmp 34) (.tmp 39) 23 rfl 152 _ 3 24 infoCA Tryz.underlying23 rfl (by omega) rfl rfl hown hrd (Qdg _) (by omega) (by omega) hsz ?_)
    intro A' d' w6 ho6 hg6 hat6;have hB6:=HC5.out.box.grown hg6 (hown.ne (by omega));obtain ⟨y0,y1,y2⟩:=hB6.three;have fy1:=hB6.frozen 1;have HS6:=Zh (HC5.out.pushA hg6 (by rw [HTA.out]; exact ho6) hat6);clear hown hrd hsz ho6 hg6 hat6 hB6 HC5 x0 x1 x2 fx0 fx1 x4l
    go_wp2_with fail
    go_roundw
    case rel=>exact ⟨i+1,j+1,V',A',c',d',by omega,by have:=HJ.out; omega,by go_num,HS6.out⟩
    case measure=>simp [intOf]; omega
  · obtain rfl:=tm hi0 hi5
    have e5:((i:Int) == 5)=false:=by simp; omega
    clear t5 tm;obtain ⟨x0,x1,x2⟩:=hch.box.three;have xl:=hch.box.lt;obtain ⟨W2,hW2⟩:∃ W2,W2=wr.alloc (.cells #[.int .i64 (i:Int),.int .i64 0,.int .i64 (0:Int)] 157):=⟨_,rfl⟩;have hb2:Below wr.heap.size wr W2:=by rw [hW2]; exact Qah
    obtain ⟨W3,hW3⟩:∃ W3,W3=W2.alloc (.cells #[.int .i64 (i:Int),.int .i64 0,.int .i64 (0:Int)] 157):=⟨_,rfl⟩;have hb3:Below W2.heap.size W2 W3:=by rw [hW3]; exact Qah
    have hb23:Below wr.heap.size wr W3:=Zb hb2 hb3;have HC3:=Zh (hch.below hb23);have hz2:W2.heap.size=wr.heap.size+1:=by rw [hW2]; simp
    have hrd:Rds W3 3 (some ⟨wr.heap.size+1,0,none⟩) 1 (Qaw [((i:Int),0,(0:Int))]):=by rw [hW3,←hz2]; exact (Blk.new W2 157 #[.int .i64 (i:Int),.int .i64 0,.int .i64 (0:Int)]).rds rfl
    have hown:=HC3.out.v;have hsz:w.heap.size+1+1+1+1+1+1≤W3.heap.size:=HC3.out.box.lt;have HW3:=Zh hW3;have HW2:=Zh hW2;clear hch hb2 hb3 hb23 hW3 hW2 hz2
    go_wp2_with (at_builtin; rw [←HW2.out,←HW3.out]; with_reducible refine Qam rfl (.tmp 26) (.tmp 28) 22 rfl 157 _ 3 24 Qyz Tryz.underlying22 rfl (by omega) rfl rfl hown hrd (Qdg _) (by omega) (by omega) hsz ?_)
    intro V' c' w4 ho4 hg4 hat4;have hB4:=HC3.out.box.grown hg4 (hown.ne (by omega));clear x0 x1 x2 xl;obtain ⟨x0,x1,x2⟩:=hB4.three;have fx0:=hB4.frozen 0;have fx1:=hB4.frozen 1;have HS4:=Zh (HC3.out.pushV hg4 (by rw [HTV.out]; exact ho4) hat4);obtain ⟨W4,hW4⟩:∃ W4,W4=w4.setCell ⟨w.heap.size+1+1+1+1+1,0,none⟩ (.slice V' (i+1) c'):=⟨_,rfl⟩;rw [←hW4] at HS4;have HW4:=Zh hW4;clear hown hrd hsz ho4 hg4 hat4 hB4 HC3 hW4;have x4l:w.heap.size+1+1+1+1+1<w4.heap.size:=by have:=HS4.out.box.lt; rw [HW4.out] at this; simpa [World.setCell] using this
    have hz4:W4.heap.size=w4.heap.size:=by rw [HW4.out]; simp [World.setCell]
    obtain ⟨W5,hW5⟩:∃ W5,W5=W4.alloc (.cells #[.int .i64 (j:Int),.int .i64 (i:Int),.int .i64 10] 152):=⟨_,rfl⟩;have hb5:Below W4.heap.size W4 W5:=by rw [hW5]; exact Qah
    have HC5:=Zh (HS4.out.below hb5);have hrd:Rds W5 3 (some ⟨w4.heap.size,0,none⟩) 1 (Qaw [((j:Int),(i:Int),10)]):=by rw [hW5,←hz4]; exact (Blk.new W4 152 #[.int .i64 (j:Int),.int .i64 (i:Int),.int .i64 10]).rds rfl
    have hown:=HC5.out.a;have hsz:w.heap.size+1+1+1+1+1+1≤W5.heap.size:=HC5.out.box.lt;have HW5:=Zh hW5;clear hb5 hW5 hz4
    go_wp2_with (at_builtin; rw [←HW4.out,←HW5.out]; with_reducible refine Qam rfl (.tmp 34) (.tmp 39) 23 rfl 152 _ 3 24 infoCA Tryz.underlying23 rfl (by omega) rfl rfl hown hrd (Qdg _) (by omega) (by omega) hsz ?_)
    intro A' d' w6 ho6 hg6 hat6;have hB6:=HC5.out.box.grown hg6 (hown.ne (by omega));obtain ⟨y0,y1,y2⟩:=hB6.three;have fy1:=hB6.frozen 1;have HS6:=Zh (HC5.out.pushA hg6 (by rw [HTA.out]; exact ho6) hat6);clear hown hrd hsz ho6 hg6 hat6 hB6 HC5 x0 x1 x2 fx0 fx1 x4l
    go_wp2_with fail
    go_roundw
    case rel=>exact ⟨i+1,j+1,V',A',c',d',by omega,by have:=HJ.out; omega,by go_num,HS6.out⟩
    case measure=>simp [intOf]; omega
end Go.Proofs.YteaoiabikjnkeaaGreatDoor
