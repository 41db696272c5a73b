/- For every input PathLeaps returns true, and its arguments read afterwards as before; package errors' variable errorType tied to the program's text. No condition. -/
/- Parts of the proof: ScS, Yz, Open, OpN, Laid, YzP. -/
import Derived.Test.YtdheeddnkdhfeaaGreatDoorH24
import Derived.Test.YtdheeddnkdhfeaaGreatDoorRows
import Derived.ProofKit
import Derived.OpenShut
import Derived.Deep.Slices
import Derived.SizedLaws
import Derived.ChangeArms
import Derived.Test.YtdheeddnkdhfeaaGreatDoorTie
import Derived.Test.YtdheeddnkdhfeaaGreatDoorCards
import Derived.Handed
import Derived.ChangeSame
import Derived.ChangeVars
import Derived.JoinedOf
import Derived.LaidLaws
import Derived.LaidHandle
import Derived.SevenTiedAt
namespace Go.Proofs.YtdheeddnkdhfeaaGreatDoor
open Go.RowKit Go.Proofs.Tryz
attribute [local go_sem ↓] Go.wp_at_zero Go.wp_at_succ
set_option maxHeartbeats 1000000 in
theorem Qoc (A B:Option Addr)(n m c d:Nat)(l l2:List Int)(w:World)(h:RdI w A n l)(h2:RdI w B m l2)(hn:n≤1000000000)(hm:m≤1000000000) :
 Calls prog 20 #[.slice A n c,.slice B m d] w fun e w'=>e=.returned (.bool (decide (l=l2)))∧∃ k,w'=w.drewN k:=by
 have HR:=Zh h;have HR2:=Zh h2;have HL:=Zh h.1;have HL2:=Zh h2.1;clear h h2;by_cases hnm:n=m;rotate_left;{(have e1:((n:Int) != (m:Int))=true:=by simp;omega);(have e2:((n:Int) == (m:Int))=false:=by simp;omega);have HD:=Zh (show decide (l=l2)=false from decide_eq_false (fun e=>hnm (by rw [←HL.out,←HL2.out,e])));(go_enter func20,ntmps20);(go_wp2_with fail);go_ret;exact ⟨Qbh HD.out.symm,0,rfl⟩};subst hnm;go_enter func20,ntmps20
 exact Kae
end Go.Proofs.YtdheeddnkdhfeaaGreatDoor
namespace Go.Proofs.YtdheeddnkdhfeaaGreatDoor
open Go.RowKit Go.Extern.Stop Go.Stop Go.Extern Go.Proofs.Tryz
attribute [local go_sem ↓] Go.wp_at_zero Go.wp_at_succ
def ErrL (w:World)(v:Value):Option (Int×Int)→Prop
 | none=>v=.nilIface
 | some p=>Qcj w v [((⟨#[108,101,97,112]⟩:ByteArray),p.1)] p.2
def WrL (w:World)(A:Option Addr)(n:Nat)(c:Int):Option (Int×Int)→Prop
 | none=>c=0
 | some p=>c=p.2∧c≠0∧RdW w A n [((⟨#[108,101,97,112]⟩:ByteArray),p.1)]∧n≤1000000
theorem ErrL.below {w w':World}{v:Value}:∀ {p:Option (Int×Int)},ErrL w v p→Below w.heap.size w w'→ErrL w' v p
 | none,h,_=>h
 | some _,h,hb=>Qcj.below hb h
theorem WrL.below {w w':World}{A:Option Addr}{n:Nat}{c:Int}:∀ {p:Option (Int×Int)},WrL w A n c p→Below w.heap.size w w'→WrL w' A n c p
 | none,h,_=>h
 | some _,h,hb=>⟨h.1,h.2.1,h.2.2.1.below hb,h.2.2.2⟩
section
variable {P:Program} {w:World} {ops:Array Oper} {o:Oper} {a:Act} {K:Act→World→Prop} {Q:Exit→Act→World→Prop} {E:Prop}
theorem Qzh (d:Option Tmp)(hd:o.dst=d) (hw:Region.wanted o (yielded ops a.tmps)=true) (s x:Operand) (t:TypeId)
 (ho:o.op=.call { callee:=.builtin .append,args:=#[s,x],argTypes:=#[t,t] })
 (e:TypeId) (z:Value) (sz by_:Nat) (hinfo:(P.info? e).map (fun i=>(i.zero,i.size,i.bytes))=some (some z,sz,by_)) (ht:P.underlying t=some (.slice e)) (hzs:z.cells.size=sz) (hs0:0<sz)
 {B n c m c2:Nat} {A X:Option Addr} {xs news:List Value} (hs:a.eval s=.slice A n c) (hx:a.eval x=.slice X m c2)
 (hown:Own w B e sz A n c xs) (hr:Rds w sz X m news) (h1:∀ u∈news,u.oneCell'=true) (hn:(n+m)*by_≤140737488355328) (hnm:n+m≤9223372036854775807) (hB:B≤w.heap.size)
 (h:∀ A' c' w',Own w' B e sz A' (n+m) c' (xs ++news)→w.grownBy w' (Qab A)→(Qab A'=Qab A∨Qab A'=some w.heap.size)→K (a.put d (.slice A' (n+m) c')) w') :
 if Region.wanted o (yielded ops a.tmps)=true then Oper.wp P o a w K Q else E:=by subst hd;rw [if_pos hw];exact Qzp s x t ho e z sz by_ hinfo ht hzs hs0 hs hx hown hr h1 hn hnm hB h
end
theorem tellsL {w:World}{v:Value}{A:Option Addr}{n m:Nat}{c:Int} {p:Option (Int×Int)} (h:ErrL w v p) (g:WrL w A n c p) (hg:w.cell? ⟨0,0,none⟩=some Qni) :
 Calls prog 23 #[v,.agg #[.slice A n m,.int .i64 c]] w fun e w'=>e=.returned (.bool true)∧Below w.heap.size w w':=by
 cases p with
 | none =>have h1:v=.nilIface:=h;have g1:c=0:=g;subst h1;subst g1;exact Qzk A n m w
 | some p =>obtain ⟨g1,g2,g3,g4⟩:c=p.2∧c≠0∧RdW w A n [((⟨#[108,101,97,112]⟩:ByteArray),p.1)]∧n≤1000000:=g;subst g1;exact Qqd v A n m _ _ w h g3 g2 hg (by omega)
section
variable {N:Qam} {ls:List (List Int)} {NC S:Nat} {lv f t:Int} {e:Ending} {w w':World}
theorem lpR_e (hok:Qap N)(hP:Qat N.vs.length ls)(h:LpR N ls NC S lv f t e w'):∃ A n cc v,e=.returned (.tuple #[.slice A n cc,v])∧ErrL w' v (lpw N ls NC S lv f t) ∧
 ((∃ q,lpw N ls NC S lv f t=some q∧q.2≠0∧n=0)∨(lpw N ls NC S lv f t=none∧∃ (L:List Nat) (a b j c:Nat) (l:List Int) (v:Int),f=(a:Int)∧t=(b:Int)∧lv=(j:Int)+1∧ls[j]?=some l∧Qgz N l c a b v∧Opn N (Qbv l c) a b v L∧RdI w' A n (nis (a::L))∧n≤1000000000)):=by
 rcases h with ⟨k,c,v,hb,he,hc⟩|⟨A,n,cc,L,a,b,j,c,l,v,h0,h1,h2,h3,hl,hp,he,ho,hr,hn,_⟩
 {have hw:=bad_w hok hP hb;rw [hw];exact ⟨none,0,0,v,he,hc,.inl ⟨_,rfl,by rcases hb.in_ with h|h|h|h|h <;> omega,rfl⟩⟩};{have hw:=good_w (N:=N) (ls:=ls) (NC:=NC) (S:=S) (lv:=lv) (f:=f) (t:=t) ⟨a,b,j,c,l,v,h0,h1,h2,h3,hl,hp⟩;rw [hw];exact ⟨A,n,cc,_,he,rfl,.inr ⟨rfl,L,a,b,j,c,l,v,h1,h2,h3,hl,hp,ho,hr,hn⟩⟩}
theorem clR_e (hok:Qap N)(hP:Qat N.vs.length ls)(h:ClR w N ls NC S lv f t e w'):(∃ A n m c,e=.returned (.agg #[.slice A n m,.int .i64 c])∧WrL w' A n c (lpw N ls NC S lv f t))∧Below w.heap.size w w':=by obtain ⟨⟨k,c,A,n,m,hb,he,hr,hn⟩|⟨hgd,he⟩,hbl⟩:=h;{have hw:=bad_w hok hP hb;rw [hw];exact ⟨⟨A,n,m,c,he,rfl,by rcases hb.in_ with h|h|h|h|h <;> omega,hr,hn⟩,hbl⟩};{rw [good_w hgd];exact ⟨⟨none,0,0,0,he,rfl⟩,hbl⟩}
end
theorem good_ent {N:Qam} {ls:List (List Int)} {cl:List Int} {EL:List Ent} (hok:Qap N) (hP:Qat N.vs.length ls) (hA:Qct N ls cl) (hE:EntP N ls EL) (hEl:EL.length=Qbw (Qae N.ar ls)) {a b j c:Nat} {l:List Int} {v:Int} (hl:ls[j]?=some l) (hp:Qgz N l c a b v) :
 ∃ (p q kk:Nat) (x:Qan),(Qaf N.ar l)[c]?=some x∧enF N ls ((j:Int)+1) (a:Int)=(c:Int)∧leF N ls ((j:Int)+1) (b:Int)=(c:Int)∧plI x.1 (a:Int)=(p:Int)∧plI x.2 (b:Int)=(q:Int)∧EL[kk]?=some (j,c,p,q)∧(∀ i f,i<kk→EL[i]?=some f→f≠(j,c,p,q))∧cl[kk]?=some v∧a<N.ar.length:=by
 obtain ⟨y,hy,y1,y2⟩:=hp.sy;obtain ⟨z,hz,z1,z2⟩:=hp.tz;obtain ⟨c',p,q,kk,x,hc,hx,hp1,hq1,_,_,hI⟩:=Qhy hok hP hl hy hz (by rw [y2];exact y1) (by rw [z1,y2]) (by rw [y2];exact z2);obtain rfl:c=c':=by rw [y2] at hc;omega
 obtain ⟨_,g2,g3⟩:=Qxb hl hy hz (by rw [y2];exact y1) (by rw [z1,y2]) (by rw [y2];exact z2);obtain ⟨k1,k2⟩:=Qtg hE hEl hI;obtain ⟨v',hv,hE'⟩:=hA.at_ hI;obtain rfl:=Lst.uniq hp.ent hE';exact ⟨p,q,kk,x,hx,g2.trans y2,g3.trans y2,hp1,hq1,k1,k2,hv,(Zs hy).1⟩
set_option maxRecDepth 20000 in
set_option maxHeartbeats 60000000 in
theorem Qlu (A B C Q:Option Addr)(n m k c d e L cq:Nat)(N:Qam) (ls:List (List Int)) (lv f t:Int) (w:World) (h:Qbz w A B C n m k N) (hk:k≤9223372036854775807) (hq:RdT w Q L ls) (hL:L≤9223372036854775807) (hg:w.cell? ⟨0,0,none⟩=some Qni) :
 Calls prog 4 #[.agg #[.slice A n c,.slice B m d,.slice C k e],.agg #[.slice Q L cq],.int .i64 lv,.int .i64 f,.int .i64 t] w fun r w'=>r=.returned (.bool true)∧Below w.heap.size w w':=by
 have HH:=Zh h;have HT:=Zh hq;have HG:=Zh hg;have HNA:=Zh (show N.ar.length=m from h.2.1.1);have HNV:=Zh (show N.vs.length=n from h.1.1);clear h hq hg;go_enter func4,ntmps4
 go_wp2_with fail
 (refine Qac ?_;intro w1 hw1);have hb1:Below w.heap.size w w1:=by rw [hw1];exact Qah
 have hX:Blk w1 w.heap.size 26 #[.slice A n c,.slice B m d,.slice C k e]:=by rw [hw1];exact Qbi
 have hY:Blk w1 (w.heap.size+1) 29 #[.slice Q L cq]:=by rw [hw1];exact Qbi
 clear hw1;with_reducible refine (Qva w1 (Zc hb1 (Zn _) HG.out)).mono ?_
 rintro r w2 ⟨rfl,hb2⟩;have hq2:=hb2;have hX2:=hX.below hb2 hX.lt;have hY2:=hY.below hb2 hY.lt;have hb2':=Zb hb1 hb2;clear hX hY hb1 hb2;obtain ⟨x0,x1,x2⟩:=hX2.three;have y0:=hY2.cell 0;simp only [Yo,Yn] at y0;go_wp2_with fail
 with_reducible refine (Qyb A B C Q n m k c d e L cq N ls w2 (HH.out.below hb2') hk (HT.out.below hb2') hL).mono ?_
 rintro r w3 ⟨hr,hb3⟩;have hb3':=Zb hb2' hb3;have hq3:=Zb hq2 hb3;have hX3:=hX2.below hb3 hX2.lt;have hY3:=hY2.below hb3 hY2.lt;clear x0 x1 x2 y0 hX2 hY2 hb2' hb3 hq2;obtain ⟨b,rfl,hGG⟩:=hr
 cases b with
 | false =>
  clear hGG;go_wp2_with fail
  go_ret;exact ⟨rfl,hb3'⟩
 | true =>
 have hmay:=hGG rfl;clear hGG;have HMAY:=Zh hmay;have hok:=hmay.small.ok;clear hmay;obtain ⟨x0,x1,x2⟩:=hX3.three;have y0:=hY3.cell 0;simp only [Yo,Yn] at y0;go_wp2_with fail
 with_reducible refine (Qtr A B C Q n m k c d e L cq N ls w3 (HH.out.below hb3') hok (HT.out.below hb3') HMAY.out.part (Qtv HMAY.out)).mono ?_
 unfold Qsn;rintro r w5 ⟨⟨g,o,CB,NC,cl,F,rfl,hNCe,hG5,hF5,hO5,hC5,hA5⟩,hb5⟩;have HNC:=Zh hNCe;have HB5:=Zh (Zb hb3' hb5);have HQ5:=Zh (Zb hq3 hb5);have HX5:=Zh (hX3.below hb5 hX3.lt);have HY5:=Zh (hY3.below hb5 hY3.lt);have HG5:=Zh hG5.rd;have HO5:=Zh (hO5.le (Qau _ _));have HC5:=Zh (show RdI w5 (some ⟨CB,0,none⟩) NC cl from ⟨hC5.1,fun i x hx=>by obtain ⟨b,o,e,h1⟩:=hC5.2 i x hx;exact ⟨b,o,e,Qau _ _ _ _ h1⟩⟩);have HALL:=Zh hA5;clear x0 x1 x2 y0 hX3 hY3 hb5 hb3' hNCe hG5 hF5 hO5 hC5 hA5 hq3;obtain ⟨x0,x1,x2⟩:=HX5.out.three;have y0:=HY5.out.cell 0;simp only [Yo,Yn] at y0;have hS9:=Qtv HMAY.out;have HCQ:=Zh (fun V (hV:Below w.heap.size w V)=>Qsb A B C Q n m k c d e L cq N ls V (HH.out.below hV) hok (HT.out.below hV) HMAY.out.part hS9);go_wp2_with fail
 with_reducible refine (HCQ.out w5 HB5.out).mono ?_
 unfold Qwc;rintro r w7 ⟨G,cg,AE,ce,EL,rfl,hG7,hE7,hEl,hEP,hb7⟩;have hNC9:NC≤1000000000:=by rw [HNC.out];exact hS9
 have HB7:=Zh (Zb HB5.out hb7);have HOD7:=Zh (show OvD w7 Q G AE L NC N ls EL from ⟨HT.out.below HB7.out,hG7,by rw [HNC.out,←hEl];exact hE7,by rw [hEl,HNC.out],HNC.out,hEP,hNC9⟩);rw [hEl,←HNC.out];have HX7:=Zh (HX5.out.below hb7 HX5.out.lt);have HG7:=Zh (HG5.out.below hb7);have HO7:=Zh (HO5.out.below hb7);have HC7:=Zh (HC5.out.below hb7);have HQ7:=Zh (Zb HQ5.out hb7);clear hG7 hE7 hEl hEP hb7 HCQ HX5 HY5 HG5 HO5 HC5 x0 x1 x2 y0;have HOK:=Zh hok;have HS9:=Zh hS9;clear hok hS9;have z0:∀ o,(w7.alloc o).cell? ⟨w.heap.size,0,none⟩=some (.slice A n c):=fun o=>by rw [(HX7.out.alloc o).cell];rfl
 have z1:∀ o,(w7.alloc o).cell? ⟨w.heap.size,1,none⟩=some (.slice B m d):=fun o=>by rw [(HX7.out.alloc o).cell];rfl
 have z2:∀ o,(w7.alloc o).cell? ⟨w.heap.size,2,none⟩=some (.slice C k e):=fun o=>by rw [(HX7.out.alloc o).cell];rfl
 go_wp2_with fail
 clear z0 z1 z2;(refine Qac ?_;intro w8 hw8);have hb8:Below w7.heap.size w7 w8:=by rw [hw8];exact Qah
 have HY8:=Zh (show Blk w8 w7.heap.size 57 #[.slice A n c,.slice B m d,.slice C k e,.slice Q L cq,.slice G L cg,.slice AE NC ce] by rw [hw8];exact Blk.new _ _ _);obtain ⟨gr,hgr⟩:∃ X,X=w7.heap.size:=⟨_,rfl⟩;rw [←hgr] at HY8 ⊢;have HX8:=Zh (HX7.out.below hb8 HX7.out.lt);have HB8:=Zh (Zb HB7.out hb8);have HOD8:=Zh (HOD7.out.below hb8);have HG8:=Zh (HG7.out.below hb8);have HO8:=Zh (HO7.out.below hb8);have HC8:=Zh (HC7.out.below hb8);have HSO:=Zh (show EL.length=Qbw (Qae N.ar ls) from by rw [HOD8.out.len,HOD8.out.sum]);clear hw8 hgr hb8 HOD7 HG7 HO7 HC7 HX7
 have HPL:=Zh (by
  have h9:=HOD8.out;have:=Qnx A B C Q G AE n m k c d e L cq cg ce EL (.slice A n c) (.slice B m d) (.slice C k e) N ls w8 (HH.out.below HB8.out) HOK.out h9.q HMAY.out.part h9.g (by rw [h9.len];exact h9.e) HSO.out h9.ent HS9.out;rw [h9.len] at this;exact this)
 with_reducible refine HPL.out.mono ?_
 rintro r w9 ⟨AP,cP,cl2,rfl,hr9,hA9,hc9,hb9⟩;obtain rfl:=hA9.uniq HALL.out;have hln:cl2.length=NC:=HC8.out.1;rw [hln] at hr9 hc9 ⊢;have HR9:=Zh hr9;have HC9:=Zh hc9;have HB89:=Zh hb9;clear hln hr9 hA9 hc9 hb9 HPL;go_wp2_with fail
 with_reducible refine (Qoc (some ⟨CB,0,none⟩) AP NC NC NC cP cl2 cl2 w9 (HC8.out.below HB89.out) HR9.out (by omega) (by omega)).mono ?_
 rintro r wa ⟨rfl,ka,rfl⟩;have hba:Below w9.heap.size w9 (w9.drewN ka):=Qay (Zr _ _) ka;obtain ⟨wa,hwa⟩:∃ W,W=w9.drewN ka:=⟨_,rfl⟩;rw [←hwa] at hba ⊢;have HBa:=Zh (Zb HB89.out hba);have HRa:=Zh (HR9.out.below hba);have d1:decide (cl2=cl2)=true:=by simp
 clear hwa hba HR9 HB89;go_wp2_with fail
 with_reducible refine (Qkt wa g o N ls (some ⟨CB,0,none⟩) NC NC NC cl2 lv f t (HG8.out.below HBa.out) (HO8.out.below HBa.out) (HC8.out.below HBa.out) HOK.out HMAY.out.part HNC.out (fun _=>HALL.out) ⟨Zn _,by omega⟩ hNC9).mono ?_
 rintro r wb ⟨hl,hb⟩;obtain ⟨A1,n1,c1,v1,rfl,he1,hd1⟩:=lpR_e HOK.out HMAY.out.part hl;have HBb:=Zh (Zb HBa.out hb);have HE1:=Zh he1;have HD1:=Zh hd1;have HRb:=Zh (HRa.out.below hb);clear hl hb he1 hd1 d1 HBa HRa;obtain ⟨p1,hp1⟩:∃ p,p=lpw N ls NC NC lv f t:=⟨_,rfl⟩;obtain ⟨p2,hp2⟩:∃ p,p=lpw N ls (NC+1) NC lv f t:=⟨_,rfl⟩;have HP1:=Zh hp1;have HP2:=Zh hp2;rw [←hp1] at HE1 HD1;have HCL1:=Zh (fun V (hV:Below w8.heap.size w8 V) (hr:RdI V AP NC cl2)=>hp1▸(Qgo A B C Q G AE n m k c d e L cq cg NC ce (.slice A n c) (.slice B m d) (.slice C k e) N ls EL AP NC cP cl2 lv f t V (HH.out.below (Zb HB8.out hV)) HOK.out HMAY.out.part (HOD8.out.below hV) (fun _=>⟨hr,HALL.out⟩)).mono (fun e w' h=>clR_e HOK.out HMAY.out.part h));have HCL2:=Zh (fun V (hV:Below w8.heap.size w8 V) A9 c9=>hp2▸(Qgo A B C Q G AE n m k c d e L cq cg NC ce (.slice A n c) (.slice B m d) (.slice C k e) N ls EL A9 (NC+1) c9 cl2 lv f t V (HH.out.below (Zb HB8.out hV)) HOK.out HMAY.out.part (HOD8.out.below hV) (fun h=>by omega)).mono (fun e w' h=>clR_e HOK.out HMAY.out.part h));have HL2:=Zh (fun V (hV:Below w8.heap.size w8 V) A9 c9=>(Qry V g o N ls A9 (NC+1) c9 NC lv f t (HO8.out.below hV) HMAY.out.part HNC.out (by omega)).mono (fun e w' ⟨⟨k,c,v,h1,h2,h3⟩,h4⟩=>show (∃ v,e=Ending.returned (.tuple #[.slice none 0 0,v])∧ErrL w' v p2)∧Below V.heap.size V w' from ⟨⟨v,h2,by rw [hp2,bad_w HOK.out HMAY.out.part h1];exact h3⟩,h4⟩));clear hp1 hp2;obtain ⟨W2,hW2⟩:=Zx (wb.alloc (.cells #[.int .i64 5] 2));have hbW:Below wb.heap.size wb W2:=by rw [hW2];exact Qah
 have hown:Own W2 wb.heap.size 2 1 (some ⟨wb.heap.size,0,none⟩) 1 1 (Qag [5]):=by rw [hW2];exact Own.lit (B:=wb.heap.size) (e:=2) (s:=1) wb #[.int .i64 5] 1 (Zn _) (by omega) rfl
 have hrd:Rds W2 1 (some ⟨CB,0,none⟩) NC (Qag cl2):=(HC8.out.below (Zb HBb.out hbW)).rdsI;have hsz:wb.heap.size≤W2.heap.size:=hbW.size;have HW2:=Zh hW2;clear hW2;go_wp2_with (at_builtin;rw [←HW2.out];with_reducible refine Qal rfl (.tmp 61) (.tmp 62) 36 rfl 2 _ 1 8 Qin underlying36 rfl (by omega) rfl rfl hown hrd (Qao _) (by omega) (by omega) hsz ?_)
 intro A5 c5 wc hob hgb hatb;have hbc:Below wb.heap.size wb wc:=hbW.trans (Zo (Zr _ _) hgb hown hsz);have HBc:=Zh (Zb HBb.out hbc);have HE1:=Zh (HE1.out.below hbc);have HRc:=Zh (HRb.out.below hbc);have HBbc:=Zh hbc;have e5:(1:Nat)+NC=NC+1:=by omega
 rw [e5];clear hbW hown hrd hob hgb hatb HW2 hbc hsz e5 HRb;go_wp2_with fail
 with_reducible refine (HL2.out wc HBc.out A5 c5).mono ?_
 rintro r wd ⟨⟨v2,rfl,he2⟩,hbd⟩;have HBd:=Zh (Zb HBc.out hbd);have HBbd:=Zh (Zb HBbc.out hbd);have HE1:=Zh (HE1.out.below hbd);have HE2:=Zh he2;have HRd:=Zh (HRc.out.below hbd);have HXd:=Zh (HX8.out.below HBd.out HX8.out.lt);have HYd:=Zh (HY8.out.below HBd.out HY8.out.lt);obtain ⟨x0,x1,x2⟩:=HXd.out.three;have y0:wd.cell? ⟨gr,0,none⟩=some (.slice A n c):=Zq HYd.out;have y1:wd.cell? ⟨gr,1,none⟩=some (.slice B m d):=Zq HYd.out;have y2:wd.cell? ⟨gr,2,none⟩=some (.slice C k e):=Zq HYd.out;have y3:wd.cell? ⟨gr,3,none⟩=some (.slice Q L cq):=Zq HYd.out;have y4:wd.cell? ⟨gr,4,none⟩=some (.slice G L cg):=Zq HYd.out;have y5:wd.cell? ⟨gr,5,none⟩=some (.slice AE NC ce):=Zq HYd.out;clear hbd he2 HL2 HRc HBc HBbc;go_wp2_with fail
 with_reducible refine (HCL1.out wd HBd.out HRd.out).mono ?_
 rintro r we ⟨⟨A4,n4,m4,c4,rfl,hw4⟩,hbe⟩;obtain ⟨wf,hwf⟩:=Zx (we.alloc (.cells #[.slice A4 n4 m4,.int .i64 c4] 66));have hbf:Below we.heap.size we wf:=by rw [hwf];exact Qah
 obtain ⟨g6,hg6⟩:∃ X,X=we.heap.size:=⟨_,rfl⟩;have HV6:=Zh (show Blk wf g6 66 #[.slice A4 n4 m4,.int .i64 c4] by rw [hwf,hg6];exact Blk.new _ _ _);have hdf:=Zb hbe hbf;have HBf:=Zh (Zb HBd.out hdf);have HBbf:=Zh (Zb HBbd.out hdf);have HE1:=Zh (HE1.out.below hdf);have HE2:=Zh (HE2.out.below hdf);have HRf:=Zh (HRd.out.below hdf)
 have HW4:=Zh (show WrL wf A4 n4 c4 p1 from by
  cases p1 with
  | none=>exact hw4
  | some p =>
   obtain ⟨g1,g2,g3,g4⟩:c4=p.2∧c4≠0∧RdW we A4 n4 [((⟨#[108,101,97,112]⟩:ByteArray),p.1)]∧n4≤1000000:=hw4;exact ⟨g1,g2,g3.below hbf,g4⟩)
 have HXf:=Zh (HXd.out.below hdf HXd.out.lt);have HYf:=Zh (HYd.out.below hdf HYd.out.lt)
 have HSX:=Zh (show ∀ V,Below wf.heap.size wf V→V.cell? ⟨w.heap.size,0,none⟩=some (.slice A n c)∧V.cell? ⟨w.heap.size,1,none⟩=some (.slice B m d)∧V.cell? ⟨w.heap.size,2,none⟩=some (.slice C k e) ∧
  V.cell? ⟨gr,0,none⟩=some (.slice A n c)∧V.cell? ⟨gr,1,none⟩=some (.slice B m d)∧V.cell? ⟨gr,2,none⟩=some (.slice C k e)∧V.cell? ⟨gr,3,none⟩=some (.slice Q L cq)∧V.cell? ⟨gr,4,none⟩=some (.slice G L cg)∧V.cell? ⟨gr,5,none⟩=some (.slice AE NC ce) ∧
  V.cell? ⟨g6,0,none⟩=some (.slice A4 n4 m4)∧V.cell? ⟨g6,1,none⟩=some (.int .i64 c4) from fun V hV=>by
  have hX':=HXf.out.below hV HXf.out.lt;have hY':=HYf.out.below hV HYf.out.lt;have hZ':=HV6.out.below hV HV6.out.lt;exact ⟨Zq hX',Zq hX',Zq hX',Zq hY',Zq hY',Zq hY',Zq hY',Zq hY',Zq hY',Zq hZ',Zq hZ'⟩)
 have Hwf:=Zh hwf;have HG6:=Zh hg6;clear hw4 hbe hwf hbf hdf hg6 x0 x1 x2 y0 y1 y2 y3 y4 y5 HCL1 HRd HXd HYd;go_wp2_with fail
 rw [←Hwf.out,←HG6.out];clear Hwf HG6;have HT1:=Zh (fun V (hV:Below wf.heap.size wf V)=>tellsL (m:=m4) (HE1.out.below hV) (HW4.out.below hV) (Zc (Zb HB8.out (Zb HBf.out hV)) (Zn _) HG.out));refine wp_region_held_drew (S:=fun V=>Below wf.heap.size wf V) (by kernel_rfl) (Zr _ _).drew (fun _=>?_);refine tzb 0 77 ?_;refine Zk 2 (fun K hK=>?_);go_simp;with_reducible refine (HT1.out _ (Zr _ _).drew).mono ?_
 rintro r v3 ⟨rfl,hb3⟩;have hb3':Below wf.heap.size wf v3:=(Zr _ _).drew.trans hb3;go_simp;refine hK.out _ _ hb3' (fun _=>?_);clear hK K hb3 HT1;refine tzd 3 80 ?_;refine tz 7 84 ?_;refine tz 9 86 ?_;refine tzb 11 88 ?_;refine tz 13 90 ?_;refine Zk 8 (fun K hK=>?_);go_simp;refine hK.out _ _ (Zb hb3' Qah) (fun _=>?_);clear hK K;obtain ⟨W5,hW5⟩:=Zx (v3.alloc (.cells #[.int .i64 5] 2));rw [←hW5];have hb5:Below v3.heap.size v3 W5:=by rw [hW5];exact Qah
 have hown:Own W5 v3.heap.size 2 1 (some ⟨v3.heap.size,0,none⟩) 1 1 (Qag [5]):=by rw [hW5];exact Own.lit (B:=v3.heap.size) (e:=2) (s:=1) v3 #[.int .i64 5] 1 (Zn _) (by omega) rfl
 have hrd:Rds W5 1 AP NC (Qag cl2):=(HRf.out.below (Zb hb3' hb5)).rdsI;have hsz:v3.heap.size≤W5.heap.size:=hb5.size;clear hW5;refine Zk 10 (fun K hK=>?_);with_reducible refine Qzh (some 87) rfl ?_ (.tmp 85) (.tmp 86) 36 rfl 2 _ 1 8 Qin underlying36 rfl (by omega) rfl rfl hown hrd (Qao _) (by omega) (by omega) hsz ?_
 {rfl};intro A9 c9 w10 ho8 hg8 hat8;have hb8:Below wf.heap.size wf w10:=Zb hb3' (hb5.trans (Zo (Zr _ _) hg8 hown hsz));refine hK.out _ _ hb8 (fun _=>?_);clear hK K hb5 hown hrd hsz ho8 hg8 hat8 hb3';rw [Nat.add_comm 1 NC];simp only [Act.put,Yi,Yj,Yk];refine Zk 14 (fun K hK=>?_);go_simp;with_reducible refine (HCL2.out w10 (Zb HBf.out hb8) A9 c9).mono ?_
 rintro r va ⟨⟨Aa,na,ma,ca,rfl,hwa⟩,hba⟩;have hba':=Zb hb8 hba;go_simp;refine hK.out _ _ hba' (fun _=>?_);clear hK K hba hb8 HCL2;refine Zk 15 (fun K hK=>?_);go_simp;with_reducible refine (tellsL (m:=ma) (HE2.out.below hba') hwa (Zc (Zb HB8.out (Zb HBf.out hba')) (Zn _) HG.out)).mono ?_
 rintro r vb ⟨rfl,hbb⟩;have hbb':=Zb hba' hbb;go_simp;refine hK.out _ _ hbb' (fun _=>?_);clear hK K hbb hba' hwa;refine tzb 16 93 ?_;refine Zd ?_;have HBfb:=Zh hbb';have HBb2:=Zh (Zb HBbf.out hbb');have HB8b:=Zh (Zb HBf.out hbb');have HRb:=Zh (HRf.out.below hbb');have HSY:=Zh (fun V (hV:Below vb.heap.size vb V)=>HSX.out V (Zb HBfb.out hV));obtain ⟨_,_,_,_,_,_,_,_,_,z0,z1⟩:=HSX.out vb hbb';clear HSX hbb' HE1 HE2 HRf HBbf;rcases HD1.out with ⟨q,hq,hq0,rfl⟩|⟨hq,LL,a,b,j,cc,l,v,rfl,rfl,rfl,hl,hp,ho,hr,hn⟩
 {(have hc4:c4≠0:=by have h9:=HW4.out;rw [hq] at h9;exact h9.2.1);(have e1:(c4 != 0)=true:=by simpa using hc4);clear hq hq0 HD1 hc4 z0;(go_wp2_with fail);go_ret;exact ⟨rfl,Zb HB8.out HB8b.out⟩};have hc4:c4=0:=by have h9:=HW4.out;rw [hq] at h9;exact h9
 rw [hc4] at z1;obtain ⟨p,q,kk,x,hx,hen,hle,hpl,hql,hk9,hu9,hv9,haN⟩:=good_ent HOK.out HMAY.out.part HALL.out HOD8.out.ent HSO.out hl hp;obtain ⟨pb,po,rfl,cv⟩:=HRb.out.2 kk v hv9;have hkn:kk<NC:=by rw [←HRb.out.1];exact (Zs hv9).1
 have k3:(kk:Int)<NC:=by omega
 have k4:0≤(kk:Int):=by omega
 have HET:=Zh (fun V (hV:Below w8.heap.size w8 V)=>Qkx A B C Q G AE n m k c d e L cq cg NC ce (.slice A n c) (.slice B m d) (.slice C k e) N ls EL j a b cc p q kk l x V (HH.out.below (Zb HB8.out hV)) HOK.out HMAY.out.part (HOD8.out.below hV) hl hx hen hle hpl hql hk9 hu9);have HLE:=Zh (fun V (hV:Below vb.heap.size vb V)=>Qvl V A B C Q n m k c d e L cq N ls (.slice A n c) (.slice B m d) (.slice C k e) (.slice G L cg) (.slice AE NC ce) A1 n1 c1 a b j (cc:Int) v l LL (HH.out.below (Zb HB8.out (Zb HB8b.out hV))) HOK.out (HOD8.out.below (Zb HB8b.out hV)).q HMAY.out.part hl hen ho (hp.bd HOK.out).2 (hr.below (Zb HBb2.out hV)) hn haN);have HSX:=Zh (fun V hV=>And.intro (HSY.out V hV) (Zc hV (Zn _) cv));clear hq hl hp ho hr hn hc4 hx hen hle hpl hql hk9 hu9 hv9 haN HD1 cv z0 hkn HSY;go_wp2_with fail
 clear z1;refine wp_region_held_drew (S:=fun V=>Below vb.heap.size vb V) (by kernel_rfl) (Zr _ _).drew (fun _=>?_);refine tzd 0 101 ?_;refine tzd 4 105 ?_;refine tzb 8 109 ?_;refine tz 10 111 ?_;refine tz 14 115 ?_;refine Zk 11 (fun K hK=>?_);go_simp;with_reducible refine (HET.out _ (Zb HB8b.out (Zr _ _).drew)).mono ?_
 rintro r vc ⟨rfl,hbc⟩;have hbc':Below vb.heap.size vb vc:=(Zr _ _).drew.trans hbc;go_simp;refine hK.out _ _ hbc' (fun _=>?_);clear hK K hbc HET;refine tzb 12 113 ?_;refine Zk 15 (fun K hK=>?_);go_simp;with_reducible refine (HLE.out _ hbc').mono ?_
 rintro r vd ⟨rfl,hbd⟩;have hbd':=Zb hbc' hbd;go_simp;refine hK.out _ _ hbd' (fun _=>?_);clear hK K;refine tz 16 10 ?_;refine Zd ?_;have HFIN:=Zh (Zb HB8.out (Zb HB8b.out hbd'));clear hbc' hbd hbd' HSX;go_wp2_with fail
 go_ret;exact ⟨rfl,HFIN.out⟩
end Go.Proofs.YtdheeddnkdhfeaaGreatDoor
namespace Go.Proofs.YtdheeddnkdhfeaaGreatDoor
open Go.ChangeShapes Go.WideShapes Go.ChangeAt Go.RowKit Go.Deep
theorem own_:ownKnob Tryz.prog.godebug=none:=by kernel_rfl
theorem Qtf:laidOutB Tryz.prog=true:=by kernel_rfl
theorem Qxw {α:Type}{p:Nat→α→Prop}:∀ (n:Nat),(∀ i,i<n→∃ a,p i a)→∃ l:List α,l.length=n∧∀ i a,l[i]?=some a→p i a
 | 0,_=>⟨[],rfl,fun i a h=>by simp at h⟩
 | n+1,h=>by
  obtain ⟨l,hl,hp⟩:=Qxw n (fun i hi=>h i (by omega));obtain ⟨a,ha⟩:=h n (by omega);refine ⟨l ++[a],by simp [hl],fun i b hb=>?_⟩;rcases Nat.lt_or_ge i n with h1|h1
  {rw [Yc (by omega)] at hb;exact hp i b hb};{rw [Yb (by omega),hl] at hb;have:i=n:=by{(rcases Nat.lt_or_ge (i-n) 1 with h2|h2);{omega};{rw [Yd (by simpa using h2)] at hb;cases hb}};subst this;simp at hb;subst hb;exact ha}
section
variable {H:Type} {enc:TypeId×Value→H} {P:Program} {w:World} {base:Nat} {spare:Nat→Bool} {held:Bool}
theorem Qfl {α:Type}{t e k:Nat} (ht:P.underlying t=some (.slice e)) (hk:P.cellsOf e=k) (hk0:0<k) (Rel:List Value→α→Prop)
 (hel:∀ (fuel:Nat) (cs:List Value) (x:DataW H×List MemPlace),DataW.trod enc P w base spare held fuel e cs=some x→∃ a,Rel cs a)
 {A:Option Addr} {n c fuel:Nat} {x:DataW H×List MemPlace} (h:DataW.trod enc P w base spare held fuel t [.slice A n c]=some x) :
 ∃ l:List α,l.length=n∧n≤c∧c≤9223372036854775807∧(n=0∨∃ el sp,x.1=.slice el sp∧el.length=n) ∧
  ∀ i a,l[i]?=some a→∃ b o vs,A=some ⟨b,o,none⟩∧Rel vs a∧vs.length=k∧∀ j v,vs[j]?=some v→w.cell? ⟨b,o+i*k+j,none⟩=some v:=by
 rcases open_slice ht h with ⟨h0,_⟩|⟨a,len,cap,m,n',D,Pl,hcs,hb,hl,hm,hmm,hx,hi⟩
 {simp only [List.cons.injEq,Value.slice.injEq,and_true] at h0;obtain ⟨rfl,rfl,rfl⟩:=h0;exact ⟨[],rfl,Zn _,by omega,.inl rfl,fun i a h=>by simp at h⟩}
 · simp only [List.cons.injEq,Value.slice.injEq,and_true] at hcs;obtain ⟨rfl,rfl,rfl⟩:=hcs;have hlm:n≤m:=by rw [hmm];split <;> omega
   obtain ⟨l,hll,hlp⟩:=Qxw (p:=fun i (y:α)=>∃ vs,Rel vs y∧vs.length=k∧∀ j v,vs[j]?=some v→w.cell? ((a.add (i*k)).add j)=some v) n (fun i hin=>by
    obtain ⟨cs',hc,ht'⟩:=hi i (by omega);rw [hk] at hc;obtain ⟨_,hlen,hat⟩:=World.cells?_some hc;obtain ⟨y,hy⟩:=hel _ _ _ ht';refine ⟨y,cs',hy,hlen,fun j v hv=>?_⟩;have hj:j<k:=by rw [←hlen];exact (Zs hv).1
    rw [hat j hj,hv])
   refine ⟨l,hll,hl,(by unfold maxLen at hm;omega),.inr ⟨_,_,by rw [hx],by simp⟩,fun i y hy=>?_⟩;obtain ⟨vs,h1,h2,h3⟩:=hlp i y hy;have hspot:a.spot=none:=by{have h4:=h3 0 vs[0] (Zg (by omega));have h5:=World.cell?_spot h4;unfold Addr.add at h5;by_cases h6:i*k=0;{simpa [h6] using h5};{have hl0:l.length=n:=hll;have h7:0<n:=by{have:=(Zs hy).1;omega};obtain ⟨y0,hy0⟩:∃ y0,l[0]?=some y0:=⟨l[0],Zg (by omega)⟩;obtain ⟨vs0,g1,g2,g3⟩:=hlp 0 y0 hy0;have g4:=World.cell?_spot (g3 0 vs0[0] (Zg (by omega)));simpa [Addr.add] using g4}};obtain ⟨b,o,sp⟩:=a;simp only at hspot;subst hspot;refine ⟨b,o,vs,rfl,h1,h2,fun j v hv=>?_⟩;have:=h3 j v hv;unfold Addr.add at this;by_cases h6:i*k=0;{by_cases h7:j=0;{simpa [h6,h7] using this};{simpa [h6,h7] using this}};{by_cases h7:j=0;{simpa [h6,h7] using this};{simpa [h6,h7] using this}}
theorem rel_int {k:IntKind}{e:Nat} (he:P.underlying e=some (.int k)) (fuel:Nat) (cs:List Value) (x:DataW H×List MemPlace) (h:DataW.trod enc P w base spare held fuel e cs=some x) :
 ∃ n:Int,cs=[.int k n]∧(Lit.int k n).wf=true:=by obtain ⟨n,h1,_,h3⟩:=DataW.trod_int he h;exact ⟨n,h1,h3⟩
theorem rel_bool {e:Nat}(he:P.underlying e=some .bool)(fuel:Nat)(cs:List Value)(x:DataW H×List MemPlace)(h:DataW.trod enc P w base spare held fuel e cs=some x) :
 ∃ n:Bool,cs=[.bool n]:=by obtain ⟨n,h1,_⟩:=DataW.trod_bool he h;exact ⟨n,h1⟩
theorem open_bools {t e:Nat} (ht:P.underlying t=some (.slice e)) (he:P.underlying e=some .bool) (hc:P.cellsOf e=1)
 {A:Option Addr} {n c fuel:Nat} {x:DataW H×List MemPlace} (h:DataW.trod enc P w base spare held fuel t [.slice A n c]=some x) :
 ∃ l:List Bool,RdB w A n l∧n≤c∧c≤9223372036854775807∧(n=0∨∃ el sp,x.1=.slice el sp∧el.length=n):=by obtain ⟨l,hl,hnc,hcm,hsz,hr⟩:=Qfl ht hc (by omega) (fun cs (p:Bool)=>cs=[.bool p]) (rel_bool he) h;refine ⟨l,⟨hl,fun i p hp=>?_⟩,hnc,hcm,hsz⟩;obtain ⟨b,o,vs,rfl,rfl,_,hv⟩:=hr i p hp;exact ⟨b,o,rfl,by have:=hv 0 _ rfl;simpa using this⟩
theorem Qmp {k:IntKind}{t e:Nat} (ht:P.underlying t=some (.slice e)) (he:P.underlying e=some (.int k)) (hc:P.cellsOf e=1)
 {A:Option Addr} {n c fuel:Nat} {x:DataW H×List MemPlace} (h:DataW.trod enc P w base spare held fuel t [.slice A n c]=some x) :
 ∃ l:List Int,RdK k w A n l∧n≤c∧c≤9223372036854775807∧(n=0∨∃ el sp,x.1=.slice el sp∧el.length=n)∧∀ a∈l,(Lit.int k a).wf=true:=by obtain ⟨l,hl,hnc,hcm,hsz,hr⟩:=Qfl ht hc (by omega) (fun cs (p:Int)=>cs=[.int k p]∧(Lit.int k p).wf=true) (rel_int he) h;refine ⟨l,⟨hl,fun i p hp=>?_⟩,hnc,hcm,hsz,fun a ha=>?_⟩;{obtain ⟨b,o,vs,rfl,⟨rfl,_⟩,_,hv⟩:=hr i p hp;exact ⟨b,o,rfl,by have:=hv 0 _ rfl;simpa using this⟩};{obtain ⟨i,hi,e1⟩:=List.getElem_of_mem ha;obtain ⟨b,o,vs,_,⟨_,h2⟩,_,_⟩:=hr i a (by rw [Zg hi,e1]);exact h2}
end
end Go.Proofs.YtdheeddnkdhfeaaGreatDoor
namespace Go.Proofs.YtdheeddnkdhfeaaGreatDoor
open Go.ChangeShapes Go.WideShapes Go.ChangeAt Go.RowKit Go.Deep
theorem list_one {α:Type}:∀ {l:List α},l.length=1→∃ a,l=[a]
 | [a],_=>⟨a,rfl⟩
theorem Qgv {α:Type}:∀ {l:List α},l.length=3→∃ a b c,l=[a,b,c]
 | [a,b,c],_=>⟨a,b,c,rfl⟩
section
variable {H:Type} {enc:TypeId×Value→H} {w:World} {base:Nat} {spare:Nat→Bool} {held:Bool}
theorem Qeh {t e:TypeId} (ht:Tryz.prog.underlying t=some (.slice e)) {fuel:Nat} {cs:List Value} {x:DataW H×List MemPlace} (h:DataW.trod enc Tryz.prog w base spare held fuel t cs=some x):∃ A n c,cs=[.slice A n c]:=by
 rcases open_slice ht h with ⟨h0,_⟩|⟨a,len,cap,m,n',D,Pl,hcs,_⟩
 {exact ⟨_,_,_,h0⟩};{exact ⟨_,_,_,hcs⟩}
theorem rel_row (fuel:Nat)(cs:List Value)(x:DataW H×List MemPlace)(h:DataW.trod enc Tryz.prog w base spare held fuel 61 cs=some x) :
 ∃ l:List Int,∃ A n c,cs=[.slice A n c]∧RdI w A n l∧n≤c∧c≤9223372036854775807:=by obtain ⟨A,n,c,rfl⟩:=Qeh Tryz.underlying61 h;obtain ⟨l,h1,h2,h3,_,_⟩:=Qmp Tryz.underlying61 Tryz.underlying3 (by kernel_rfl) h;exact ⟨l,A,n,c,rfl,h1,h2,h3⟩
theorem Qyu {cs:List Value}{fuel:Nat}{x:DataW H×List MemPlace}(h:DataW.trod enc Tryz.prog w base spare held fuel 29 cs=some x) :
 ∃ (A:Option Addr) (n c:Nat) (ls:List (List Int)),cs=[.slice A n c]∧RdT w A n ls∧n≤c∧c≤9223372036854775807:=by obtain ⟨xs,m,_,_,hcl,hxl,hi⟩:=DataW.trod_struct Tryz.underlying29 h;have hxl':xs.length=1:=hxl;have a0:DataW.trod enc Tryz.prog w base spare held m 27 ((cs.drop 0).take (Tryz.prog.cellsOf 27))=xs[0]?:=hi 0 _ rfl;rw [Zg (by omega)] at a0;obtain ⟨A,n,c,e0⟩:=Qeh Tryz.underlying27 a0;rw [e0] at a0;obtain ⟨l,hl,hnc,hcm,_,hr⟩:=Qfl Tryz.underlying27 (k:=1) (by kernel_rfl) (by omega) (fun cs (l:List Int)=>∃ A n c,cs=[.slice A n c]∧RdI w A n l∧n≤c∧c≤9223372036854775807) rel_row a0;rw [show Tryz.prog.cellsOf 29=1 by kernel_rfl] at hcl;rw [show Tryz.prog.cellsOf 27=1 by kernel_rfl] at e0;clear a0 hi h;obtain ⟨c0,rfl⟩:=list_one hcl;simp at e0;refine ⟨A,n,c,l,by simp [e0],⟨hl,fun i p hp=>?_⟩,hnc,hcm⟩;obtain ⟨b,o,vs,e,⟨A',n',c',e2,h1,h2,h3⟩,_,hv⟩:=hr i p hp;subst e2;exact ⟨b,o,A',n',c',e,by have:=hv 0 _ rfl;simpa using this,h1,h2,h3⟩
theorem rel_vert (fuel:Nat)(cs:List Value)(x:DataW H×List MemPlace)(h:DataW.trod enc Tryz.prog w base spare held fuel 124 cs=some x):∃ p:Tri,cs=[.int .i64 p.1,.int .i64 p.2.1,.int .i64 p.2.2]:=by obtain ⟨xs,m,_,_,hcl,hxl,hi⟩:=DataW.trod_struct Tryz.underlying124 h;have hxl':xs.length=3:=hxl;have a0:DataW.trod enc Tryz.prog w base spare held m 3 ((cs.drop 0).take (Tryz.prog.cellsOf 3))=xs[0]?:=hi 0 _ rfl;have a1:DataW.trod enc Tryz.prog w base spare held m 3 ((cs.drop 1).take (Tryz.prog.cellsOf 3))=xs[1]?:=hi 1 _ rfl;have a2:DataW.trod enc Tryz.prog w base spare held m 3 ((cs.drop 2).take (Tryz.prog.cellsOf 3))=xs[2]?:=hi 2 _ rfl;rw [Zg (by omega)] at a0 a1 a2;obtain ⟨n0,e0,_⟩:=DataW.trod_int Tryz.underlying3 a0;obtain ⟨n1,e1,_⟩:=DataW.trod_int Tryz.underlying3 a1;obtain ⟨n2,e2,_⟩:=DataW.trod_int Tryz.underlying3 a2;rw [show Tryz.prog.cellsOf 124=3 by kernel_rfl] at hcl;rw [show Tryz.prog.cellsOf 3=1 by kernel_rfl] at e0 e1 e2;exact Kco
theorem rel_arc (fuel:Nat)(cs:List Value)(x:DataW H×List MemPlace)(h:DataW.trod enc Tryz.prog w base spare held fuel 119 cs=some x):∃ p:Tri,cs=[.int .i64 p.1,.int .i64 p.2.1,.int .i64 p.2.2]:=by obtain ⟨xs,m,_,_,hcl,hxl,hi⟩:=DataW.trod_struct Tryz.underlying119 h;have hxl':xs.length=3:=hxl;have a0:DataW.trod enc Tryz.prog w base spare held m 3 ((cs.drop 0).take (Tryz.prog.cellsOf 3))=xs[0]?:=hi 0 _ rfl;have a1:DataW.trod enc Tryz.prog w base spare held m 3 ((cs.drop 1).take (Tryz.prog.cellsOf 3))=xs[1]?:=hi 1 _ rfl;have a2:DataW.trod enc Tryz.prog w base spare held m 2 ((cs.drop 2).take (Tryz.prog.cellsOf 2))=xs[2]?:=hi 2 _ rfl;rw [Zg (by omega)] at a0 a1 a2;obtain ⟨n0,e0,_⟩:=DataW.trod_int Tryz.underlying3 a0;obtain ⟨n1,e1,_⟩:=DataW.trod_int Tryz.underlying3 a1;obtain ⟨n2,e2,_⟩:=DataW.trod_int Tryz.underlying2 a2;rw [show Tryz.prog.cellsOf 119=3 by kernel_rfl] at hcl;rw [show Tryz.prog.cellsOf 3=1 by kernel_rfl] at e0 e1;rw [show Tryz.prog.cellsOf 2=1 by kernel_rfl] at e2;exact Kco
def TabCs (w:World)(cs:List Value)(t:Qft):Prop:=∃ (A:Option Addr) (n c:Nat),cs=[.int .i64 t.ins,.int .i64 t.outs,.slice A n c]∧RdI w A n t.costs∧n≤c∧c≤9223372036854775807
theorem rel_tab (fuel:Nat)(cs:List Value)(x:DataW H×List MemPlace)(h:DataW.trod enc Tryz.prog w base spare held fuel 122 cs=some x):∃ t:Qft,TabCs w cs t:=by obtain ⟨xs,m,_,_,hcl,hxl,hi⟩:=DataW.trod_struct Tryz.underlying122 h;have hxl':xs.length=3:=hxl;have a0:DataW.trod enc Tryz.prog w base spare held m 3 ((cs.drop 0).take (Tryz.prog.cellsOf 3))=xs[0]?:=hi 0 _ rfl;have a1:DataW.trod enc Tryz.prog w base spare held m 3 ((cs.drop 1).take (Tryz.prog.cellsOf 3))=xs[1]?:=hi 1 _ rfl;have a2:DataW.trod enc Tryz.prog w base spare held m 36 ((cs.drop 2).take (Tryz.prog.cellsOf 36))=xs[2]?:=hi 2 _ rfl;rw [Zg (by omega)] at a0 a1 a2;obtain ⟨n0,e0,_⟩:=DataW.trod_int Tryz.underlying3 a0;obtain ⟨n1,e1,_⟩:=DataW.trod_int Tryz.underlying3 a1;obtain ⟨A,n,c,e2⟩:=Qeh Tryz.underlying36 a2;rw [e2] at a2;obtain ⟨l,h1,h2,h3,_,_⟩:=Qmp Tryz.underlying36 Tryz.underlying2 (by kernel_rfl) a2;rw [show Tryz.prog.cellsOf 122=3 by kernel_rfl] at hcl;rw [show Tryz.prog.cellsOf 3=1 by kernel_rfl] at e0 e1;rw [show Tryz.prog.cellsOf 36=1 by kernel_rfl] at e2;clear a0 a1 a2 hi h;obtain ⟨c0,c1,c2,rfl⟩:=Qgv hcl;simp at e0 e1 e2;exact ⟨⟨n0,n1,l⟩,A,n,c,by simp [e0,e1,e2],h1,h2,h3⟩
theorem open_net {cs:List Value}{fuel:Nat}{x:DataW H×List MemPlace}(h:DataW.trod enc Tryz.prog w base spare held fuel 26 cs=some x) :
 ∃ (A B C:Option Addr) (n m k c d e:Nat) (N:Qam),cs=[.slice A n c,.slice B m d,.slice C k e]∧Qbz w A B C n m k N∧k≤9223372036854775807:=by obtain ⟨xs,f,_,_,hcl,hxl,hi⟩:=DataW.trod_struct Tryz.underlying26 h;have hxl':xs.length=3:=hxl;have a0:DataW.trod enc Tryz.prog w base spare held f 22 ((cs.drop 0).take (Tryz.prog.cellsOf 22))=xs[0]?:=hi 0 _ rfl;have a1:DataW.trod enc Tryz.prog w base spare held f 23 ((cs.drop 1).take (Tryz.prog.cellsOf 23))=xs[1]?:=hi 1 _ rfl;have a2:DataW.trod enc Tryz.prog w base spare held f 24 ((cs.drop 2).take (Tryz.prog.cellsOf 24))=xs[2]?:=hi 2 _ rfl;rw [Zg (by omega)] at a0 a1 a2;obtain ⟨A,n,c,e0⟩:=Qeh Tryz.underlying22 a0;obtain ⟨B,m,d,e1⟩:=Qeh Tryz.underlying23 a1;obtain ⟨C,k,e,e2⟩:=Qeh Tryz.underlying24 a2;rw [e0] at a0;rw [e1] at a1;rw [e2] at a2;obtain ⟨vs,hl0,_,_,_,hr0⟩:=Qfl Tryz.underlying22 (k:=3) (by kernel_rfl) (by omega) (fun cs (p:Tri)=>cs=[.int .i64 p.1,.int .i64 p.2.1,.int .i64 p.2.2]) rel_vert a0;obtain ⟨ar,hl1,_,_,_,hr1⟩:=Qfl Tryz.underlying23 (k:=3) (by kernel_rfl) (by omega) (fun cs (p:Tri)=>cs=[.int .i64 p.1,.int .i64 p.2.1,.int .i64 p.2.2]) rel_arc a1;obtain ⟨ts,hl2,hkc,hcm,_,hr2⟩:=Qfl Tryz.underlying24 (k:=3) (by kernel_rfl) (by omega) (TabCs w) rel_tab a2;rw [show Tryz.prog.cellsOf 26=3 by kernel_rfl] at hcl;rw [show Tryz.prog.cellsOf 22=1 by kernel_rfl] at e0;rw [show Tryz.prog.cellsOf 23=1 by kernel_rfl] at e1;rw [show Tryz.prog.cellsOf 24=1 by kernel_rfl] at e2;clear a0 a1 a2 hi h;obtain ⟨c0,c1,c2,rfl⟩:=Qgv hcl;simp at e0 e1 e2;refine ⟨A,B,C,n,m,k,c,d,e,⟨vs,ar,ts⟩,by simp [e0,e1,e2],⟨⟨hl0,fun i p hp=>?_⟩,⟨hl1,fun i p hp=>?_⟩,⟨hl2,fun i p hp=>?_⟩⟩,by omega⟩;{obtain ⟨b,o,us,e5,rfl,_,hv⟩:=hr0 i p hp;exact ⟨b,o,e5,by have:=hv 0 _ rfl;simpa using this,hv 1 _ rfl,hv 2 _ rfl⟩};{obtain ⟨b,o,us,e5,rfl,_,hv⟩:=hr1 i p hp;exact ⟨b,o,e5,by have:=hv 0 _ rfl;simpa using this,hv 1 _ rfl,hv 2 _ rfl⟩};{obtain ⟨b,o,us,e5,⟨A',n',c',rfl,h1,h2,h3⟩,_,hv⟩:=hr2 i p hp;exact ⟨b,o,e5,by have:=hv 0 _ rfl;simpa using this,hv 1 _ rfl,A',n',c',hv 2 _ rfl,h1,h2,h3⟩}
end
end Go.Proofs.YtdheeddnkdhfeaaGreatDoor
namespace Go.Proofs.YtdheeddnkdhfeaaGreatDoor
open Go.ChangeShapes Go.WideShapes Go.ChangeAt Go.RowKit Go.Deep
theorem et_ : Tryz.prog.globalNamed "errors.errorType" = some 0 := by kernel_rfl
theorem rt_ : (Tryz.prog.cutTypes.find? (·.1 == "internal/reflectlite.rtype")).map (·.2) = some 281 := by kernel_rfl
theorem oneRow_:((List.range 363).filter fun t=>Tryz.prog.rowNamed t [101,114,114,111,114])=[44]:=by kernel_rfl
theorem size_:Tryz.prog.types.size=363:=by kernel_rfl
theorem Qlt {W : World} (h : laidMetH Tryz.prog [("errors.errorType", Rows.laid_errors_errorType)] W) : W.cell? ⟨0, 0, none⟩ = some Qni := by
 have h' : laidMet Tryz.prog [] W ∧ handlesMet Tryz.prog [("errors.errorType", Rows.laid_errors_errorType)] W := h
 obtain ⟨name,u,ty,e1,e2,e3,e4,e5⟩:=h'.2 _ (List.mem_singleton.2 rfl);have en:name=[101,114,114,111,114]:=(Yv e1).symm;subst en;obtain rfl:=Yv (rt_.symm.trans e2);have hm:ty∈(List.range 363).filter fun t=>Tryz.prog.rowNamed t [101,114,114,111,114]:=List.mem_filter.2 ⟨List.mem_range.2 (by rw [←size_];exact e3),e4⟩
 rw [oneRow_] at hm;obtain rfl:=List.mem_singleton.1 hm;have hh:typeHandle Tryz.prog 44=.pointer (some ⟨1,44,none⟩):=by kernel_rfl
 rw [hh] at e5;unfold Qni;simpa using World.var?_cell et_ e5 0
noncomputable def Qpn (os:Os):World :=
 let w0:=World.holding Tryz.prog os ⟨#[],#[],[]⟩
 { w0 with heap:=w0.heap.modify 0 fun
  | .cells _ t frozen=>.cells #[Qni] t frozen
  | o=>o }
theorem Qnq (os : Os) (args : Array Value) : laidMetH Tryz.prog [("errors.errorType", Rows.laid_errors_errorType)] ((Qpn os).forCall (fun _ _ => 0) ⟨#[], args, []⟩).memory :=
 laidMetH_of_parts (laidMet_nil _ _) (by kernel_rfl)
end Go.Proofs.YtdheeddnkdhfeaaGreatDoor
namespace Go.Proofs.YtdheeddnkdhfeaaGreatDoor
open Go.ChangeShapes Go.WideShapes Go.ChangeAt Go.RowKit Go.Deep
namespace PathLeapsDone
set_option maxRecDepth 100000 in
theorem lifted (os:Os)(started:os.Started)(H:Type)(enc:TypeId×Value→H) :
 ReturnsInHanded {} Tryz.checked os 4 .any (fun w args => (Rows.pathLeapsSpec.pre enc Tryz.prog Tryz.f4 [] false w args ∧ laidMetH Tryz.prog [("errors.errorType", Rows.laid_errors_errorType)] w) ∧ sizedMet enc Tryz.prog Tryz.f4 (OpenSpec.ofChange Rows.pathLeapsSpec) false w args)
  (Rows.pathLeapsSpec.post enc Tryz.prog Tryz.f4 false true false false):=by
 refine returnsInHanded_of_change_and (C := Tryz.checked) (X := fun w _ => laidMetH Tryz.prog [("errors.errorType", Rows.laid_errors_errorType)] w) (fun _ _ _ hh h => h.of_heap hh) own_ started (by kernel_rfl) Tryz.func4
  (ChangeSpec.witness_at (enc := enc) (C := Tryz.checked) (os := os) (X := fun w _ => laidMetH Tryz.prog [("errors.errorType", Rows.laid_errors_errorType)] w) false (Qpn os) #[.agg #[.slice none 0 0, .slice none 0 0, .slice none 0 0], .agg #[.slice none 0 0], .int .i64 0, .int .i64 0, .int .i64 0] 8 rfl (by kernel_rfl) (by kernel_rfl) (by kernel_rfl) (by kernel_rfl) (by kernel_rfl) (Qnq os _)) ?_
 intro W base args ds gs before hval0 hW _ hsz0 hL _;clear hsz0;have hval:∀ (j:Nat) t v,Tryz.f4.params[j]?=some t→args[j]?=some v→Value.okWide Tryz.prog W .any base t v:=hval0;have hW':=hW;obtain ⟨p,q,hA0,hV,rfl,hfz,hnd⟩:=hW;have hA:DataW.TrodAll enc Tryz.prog W 0 (fun _=>true) true Tryz.f4.params.toList args.toList ds p:=hA0;rw [Tryz.params4] at hA hval;obtain ⟨v0,vs0,d0,ds0,p0,q0,hargs,rfl,rfl,h0,r0⟩:=trodAll_cons hA;obtain ⟨v1,vs1,d1,ds1,p1,q1,rfl,rfl,rfl,h1,r1⟩:=trodAll_cons r0;obtain ⟨v2,vs2,d2,ds2,p2,q2,rfl,rfl,rfl,h2,r2⟩:=trodAll_cons r1;obtain ⟨v3,vs3,d3,ds3,p3,q3,rfl,rfl,rfl,h3,r3⟩:=trodAll_cons r2;obtain ⟨v4,vs4,d4,ds4,p4,q4,rfl,rfl,rfl,h4,r4⟩:=trodAll_cons r3;obtain ⟨rfl,rfl,rfl⟩:=trodAll_nil r4;obtain rfl:args=#[v0,v1,v2,v3,v4]:=by cases args;simp_all
 obtain ⟨rfl,rfl⟩:=trodVars_none hV;obtain ⟨cs0,rfl,_⟩:=okWide_struct Tryz.underlying26 (hval 0 26 v0 rfl rfl);have k0:=h0;have lt0:∀ x∈p0,x.block<W.heap.size:=by obtain ⟨m,hm⟩:=k0;exact DataW.trod_lt m _ _ _ hm
 obtain ⟨A,B,C,n,m,k,c,d,e,N,hcs0,hnet,hk⟩:∃ (A B C:Option Addr) (n m k c d e:Nat) (N:Qam),cs0=#[.slice A n c,.slice B m d,.slice C k e]∧Qbz W A B C n m k N∧k≤9223372036854775807:=by{obtain ⟨fuel,hf⟩:=h0;obtain ⟨A,B,C,n,m,k,c,d,e,N,e1,e2,e3⟩:=open_net hf;exact ⟨A,B,C,n,m,k,c,d,e,N,Array.toList_inj.1 e1,e2,e3⟩};subst hcs0;obtain ⟨cs1,rfl,_⟩:=okWide_struct Tryz.underlying29 (hval 1 29 v1 rfl rfl);have k1:=h1;have lt1:∀ x∈p1,x.block<W.heap.size:=by obtain ⟨m,hm⟩:=k1;exact DataW.trod_lt m _ _ _ hm
 obtain ⟨Q,L,cq,ls,hcs1,hpart,hLc⟩:∃ (Q:Option Addr) (L cq:Nat) (ls:List (List Int)),cs1=#[.slice Q L cq]∧RdT W Q L ls∧L≤9223372036854775807:=by{obtain ⟨fuel,hf⟩:=h1;obtain ⟨Q,L,cq,ls,e1,e2,e3,e4⟩:=Qyu hf;exact ⟨Q,L,cq,ls,Array.toList_inj.1 e1,e2,by omega⟩};subst hcs1;obtain ⟨a2,rfl,rfl,rfl,w2⟩:=open_int Tryz.underlying3 (hval 2 3 v2 rfl rfl) h2;obtain ⟨a3,rfl,rfl,rfl,w3⟩:=open_int Tryz.underlying3 (hval 3 3 v3 rfl rfl) h3;obtain ⟨a4,rfl,rfl,rfl,w4⟩:=open_int Tryz.underlying3 (hval 4 3 v4 rfl rfl) h4;clear hA0 hval0;have hg:=Qlt hL;refine (Qlu A B C Q n m k c d e L cq N ls a2 a3 a4 W hnet hk hpart hLc hg).mono fun e W' ⟨he,bel⟩=>?_
 subst he;exact ⟨_,rfl,_,_,_,[],_,[],hW',trodAll_mk1 (shut_bool Tryz.underlying4 _),(trodAll_cons_mk (Below.trod Qtf (by kernel_rfl) (of_decide_eq_true (by kernel_rfl)) k0 bel lt0) (trodAll_cons_mk (Below.trod Qtf (by kernel_rfl) (of_decide_eq_true (by kernel_rfl)) k1 bel lt1) (trodAll_cons_mk (shut_int Tryz.underlying3 w2) (trodAll_cons_mk (shut_int Tryz.underlying3 w3) (trodAll_cons_mk (shut_int Tryz.underlying3 w4) trodAll_mk0))))),rfl,bel.frame _,fun h=>by cases h⟩
theorem jf0:Rows.pathLeapsRow.wf (OpenSpec.ofChange Rows.pathLeapsSpec)=true:=by kernel_rfl
theorem jf1:laidOutB Tryz.prog=true:=by kernel_rfl
theorem jf2:mapsRowed Tryz.prog=true:=by kernel_rfl
theorem jf3:Tryz.f4.params.all (Tryz.prog.readableRec ·)=true:=by kernel_rfl
theorem jf4:namedTie Tryz.prog Rows.pathLeapsRow.named Rows.pathLeapsSpec.vars=true:=by kernel_rfl
theorem jf5:(Rows.pathLeapsRow.stops == [])=true:=by kernel_rfl
theorem jf6:(Tryz.prog.stops == [])=true:=by kernel_rfl
theorem jf7:(Rows.pathLeapsRow.knobs == [])=true:=by kernel_rfl
theorem jf8:(Tryz.prog.stopKnobs == [])=true:=by kernel_rfl
theorem jf9:(Rows.pathLeapsRow.inPlace == Tryz.prog.inPlace 4)=true:=by kernel_rfl
theorem jf10:(Rows.pathLeapsRow.unfollowed == Tryz.prog.unfollowed 4)=true:=by kernel_rfl
theorem jf11:(Rows.pathLeapsRow.recurses == Tryz.prog.recurses 4)=true:=by kernel_rfl
theorem jf12:(Rows.pathLeapsRow.named == Tryz.prog.varsNamed 4)=true:=by kernel_rfl
theorem jf13:(Rows.pathLeapsRow.maps == (Tryz.f4.params.toList ++Rows.pathLeapsSpec.plain.varTypes Tryz.prog).any (Tryz.prog.mapsRec ·))=true:=by kernel_rfl
theorem jf14:(Rows.pathLeapsRow.ifaces == (Tryz.f4.params.toList ++Rows.pathLeapsSpec.plain.varTypes Tryz.prog).any (Tryz.prog.ifacesRec ·))=true:=by kernel_rfl
theorem jf15:(Rows.pathLeapsRow.mapsOut == Tryz.prog.mapsAmong Tryz.f4.resultTypes.toList)=true:=by kernel_rfl
theorem jf16:(Rows.pathLeapsRow.loops == (Tryz.f4.params.toList ++Rows.pathLeapsSpec.plain.varTypes Tryz.prog).any (Tryz.prog.loopsFrom ·))=true:=by kernel_rfl
theorem jf17:(Rows.pathLeapsRow.wideKeys == (Tryz.f4.params.toList ++Rows.pathLeapsSpec.plain.varTypes Tryz.prog ++Tryz.f4.resultTypes.toList).any (Tryz.prog.wideKeysFrom ·))=true:=by kernel_rfl
theorem jf18:Rows.pathLeapsSpec.vars.all (Tryz.prog.varReadable ·)=true:=by kernel_rfl
theorem jf19:Tryz.f4.resultTypes.all (fun t=>Tryz.prog.readableRec t && decide (t<Tryz.prog.types.size))=true:=by kernel_rfl
theorem jf20:(Rows.pathLeapsRow.ifacesOut == Tryz.f4.resultTypes.toList.any (Tryz.prog.ifacesRec ·))=true:=by kernel_rfl
theorem jf21:(Rows.pathLeapsRow.loopsOut == Tryz.f4.resultTypes.toList.any (Tryz.prog.loopsFrom ·))=true:=by kernel_rfl
theorem jf22:(Rows.pathLeapsRow.plainKeys == Tryz.prog.plainKeys)=true:=by kernel_rfl
theorem jf23:Rows.pathLeapsRow.shortTexts.isNone=true:=by kernel_rfl
theorem jf24:Tryz.prog.stopsHeard=true:=by kernel_rfl
theorem jf25:Tryz.prog.mayEnter=true:=by kernel_rfl
theorem jf26:(Rows.pathLeapsRow.lifted == Tryz.prog.liftsFinal)=true:=by kernel_rfl
theorem jf27:(Tryz.prog.make == some Rows.pathLeapsRow.make)=true:=by kernel_rfl
theorem jf28:(Rows.pathLeapsRow.kinds == (if Rows.pathLeapsRow.domain.isEmpty then [] else Tryz.f4.params.toList.map fun t=>match Tryz.prog.underlying t with|some (.int k)=>some k|_=>none))=true:=by kernel_rfl
theorem jf29:(Rows.pathLeapsRow.pinned == Rows.pathLeapsRow.pinnedBy)=true:=by kernel_rfl
theorem jf30:(Rows.pathLeapsRow.veiled == (Tryz.f4.params.toList ++Rows.pathLeapsSpec.plain.varTypes Tryz.prog ++Tryz.f4.resultTypes.toList).any (Tryz.prog.veiledRec ·))=true:=by kernel_rfl
theorem jf31:Rows.pathLeapsRow.veiledFits Tryz.prog Tryz.f4.params.toList (Tryz.f4.params.toList ++Rows.pathLeapsSpec.plain.varTypes Tryz.prog ++Tryz.f4.resultTypes.toList)=true:=by kernel_rfl
set_option maxRecDepth 100000 in
theorem closed:joinedFacts Tryz.prog 4 Tryz.f4 Rows.pathLeapsSpec Rows.pathLeapsRow=true:=by simp only [joinedFacts,Bool.and_eq_true];exact ⟨⟨⟨⟨⟨⟨⟨⟨⟨⟨⟨⟨⟨⟨⟨⟨⟨⟨⟨⟨⟨⟨⟨⟨⟨⟨⟨⟨⟨⟨⟨jf0,jf1⟩,jf2⟩,jf3⟩,jf4⟩,jf5⟩,jf6⟩,jf7⟩,jf8⟩,jf9⟩,jf10⟩,jf11⟩,jf12⟩,jf13⟩,jf14⟩,jf15⟩,jf16⟩,jf17⟩,jf18⟩,jf19⟩,jf20⟩,jf21⟩,jf22⟩,jf23⟩,jf24⟩,jf25⟩,jf26⟩,jf27⟩,jf28⟩,jf29⟩,jf30⟩,jf31⟩
theorem named : Tryz.prog.funcNamed "roundsman/roundsmanlaw22.PathLeaps" = some 4 := by kernel_rfl
theorem inst:Tryz.f4.isInstance Tryz.prog Rows.pathLeapsRow.origin Rows.pathLeapsRow.targs:=of_decide_eq_true (by kernel_rfl)
theorem wrap:Tryz.f4.isWrapper Tryz.prog Rows.pathLeapsRow.wrapper Rows.pathLeapsRow.mainSum:=by unfold Func.isWrapper;rw [if_neg (of_decide_eq_false (by kernel_rfl))];exact ⟨rfl,rfl⟩
theorem over:Rows.PathLeapsSaid :=
 OpenClaim.holds_of_wide 4 Tryz.f4 rfl rfl rfl rfl rfl rfl rfl ⟨rfl,rfl,rfl,rfl,rfl⟩ rfl rfl rfl rfl rfl named Tryz.func4 closed inst wrap
  (fun os started H enc _=>lifted os started H enc)
theorem byText:Rows.pathLeapsRow.wfByText (OpenSpec.ofChange Rows.pathLeapsSpec)=true:=by kernel_rfl
theorem mainIs : Tryz.prog.mainIs = some (((true, "e050398fe6459b335d862d199e00ee26368d24a03f5a06a9ac40ea2e9df76a20") : Bool × String).1, ((true, "e050398fe6459b335d862d199e00ee26368d24a03f5a06a9ac40ea2e9df76a20") : Bool × String).2.toList) := by kernel_rfl
theorem looksL:true=Tryz.prog.looks []:=by kernel_rfl
theorem goes:false=Rows.pathLeapsRow.goesBy Tryz.prog:=by kernel_rfl
theorem proved:Rows.PathLeapsCardSaid :=
 Claim7.holds_tied_plain_at .later [] [.handle] true (true, "e050398fe6459b335d862d199e00ee26368d24a03f5a06a9ac40ea2e9df76a20") true
  over (fun _ h=>by cases h) byText (fun _ h=>by cases h) pathLeaps_row_tie rfl ⟨rfl,rfl⟩ mainIs rfl
  (fun f fn hf hfn=>by
   obtain rfl:f=4:=Yv (named.symm.trans hf) |>.symm
   obtain rfl:fn=Tryz.f4:=(Yv (Tryz.func4.symm.trans hfn)).symm
   exact ⟨looksL,fun j t ht=>by
    rw [Tryz.params4] at ht
    rcases j with _|_|_|_|_|j
    · obtain rfl:t=26:=by simpa using ht.symm
      exact (show Tryz.prog.wantsStandIn 26=false by kernel_rfl)
    · obtain rfl:t=29:=by simpa using ht.symm
      exact (show Tryz.prog.wantsStandIn 29=false by kernel_rfl)
    · obtain rfl:t=3:=by simpa using ht.symm
      exact (show Tryz.prog.wantsStandIn 3=false by kernel_rfl)
    · obtain rfl:t=3:=by simpa using ht.symm
      exact (show Tryz.prog.wantsStandIn 3=false by kernel_rfl)
    · obtain rfl:t=3:=by simpa using ht.symm
      exact (show Tryz.prog.wantsStandIn 3=false by kernel_rfl)
    · simp at ht⟩)
  goes
#print axioms proved
end PathLeapsDone
end Go.Proofs.YtdheeddnkdhfeaaGreatDoor
