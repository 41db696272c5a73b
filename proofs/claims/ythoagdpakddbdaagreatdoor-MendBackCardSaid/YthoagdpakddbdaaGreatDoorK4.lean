/- Parts of the proof: Nt7, Nt8, Nt9, Gv, Gr. -/
import Derived.Test.YthoagdpakddbdaaGreatDoorK1
import Derived.Test.YthoagdpakddbdaaGreatDoorK3
namespace Go.Proofs.YthoagdpakddbdaaGreatDoor
open Go.RowKit Go.Proofs.Tryz
attribute [local go_sem ↓] Go.wp_at_zero Go.wp_at_succ
def Qhr (G:Prop)(e:Ending):Prop:=∃ b:Bool,e=.returned (.bool b)∧(b=true→G)
structure FewOk (N:Qaj):Prop where
 v:N.vs.length≤80
 a:N.ar.length≤300
 t:N.ts.length≤80
 c:∀ t∈N.ts,t.costs.length≤300
set_option maxHeartbeats 1000000 in
theorem few_any (A B C:Option Addr)(n m k c d e:Nat)(N:Qaj)(w:World)(h:Qbm w A B C n m k N) :
 Calls prog 107 #[.agg #[.slice A n c,.slice B m d,.slice C k e]] w fun e w'=>Qhr (FewOk N) e∧Below w.heap.size w w':=by
 have HH:=Zh h;have HLV:=Zh h.1.1;have HLA:=Zh h.2.1.1;have HLT:=Zh h.2.2.1;clear h
 by_cases q0:(n:Int) > 80
 · go_enter func107,ntmps107
   go_wp2_with fail
   go_ret
   exact ⟨⟨false,rfl,fun h=>by cases h⟩,Qae⟩
 by_cases q1:(m:Int) > 300
 · go_enter func107,ntmps107
   go_wp2_with fail
   go_ret
   exact ⟨⟨false,rfl,fun h=>by cases h⟩,Qae⟩
 by_cases q2:(k:Int) > 80
 · go_enter func107,ntmps107
   go_wp2_with fail
   go_ret
   exact ⟨⟨false,rfl,fun h=>by cases h⟩,Qae⟩
 go_enter func107,ntmps107
 go_wp2_with fail
 (refine Qah ?_;intro w1 hw1)
 have hb1:Below w.heap.size w w1:=by rw [hw1];exact Qae
 have hN1:Blk w1 w.heap.size 26 #[.slice A n c,.slice B m d,.slice C k e]:=by rw [hw1];exact Blk.new _ _ _
 clear hw1;obtain ⟨n0,n1,n2⟩:=hN1.three;have zN:=hN1.lt;have H1:=Zh (HH.out.below hb1)
 go_loop [3] (fun q=>∃ i:Nat,i≤k∧q=.int .i64 i∧∀ j t,j<i→N.ts[j]?=some t→t.costs.length≤300) (fun q=>k-(intOf q).toNat)
 case atStart=>exact ⟨0,Nat.zero_le _,rfl,fun _ _ h=>absurd h (Nat.not_lt_zero _)⟩
 case round =>
  obtain ⟨i,hi,rfl,hall⟩:=hrel;have HA:=Zh hall;clear hall
  by_cases hlt:i<k
  · obtain ⟨b,o,t,rfl,ht,k0,k1,A',n',c',k2,hr,hc1,hc2⟩:=H1.out.2.2.at_ hlt
    have i1:(0:Int)≤(i:Int):=by omega
    have i2:(i:Int)<(k:Int):=by omega
    have HT:=Zh ht;have HC:=Zh hr.1;clear ht hr
    by_cases q3:(n':Int) > 300
    · go_wp2_with fail
      go_ret
      exact ⟨⟨false,rfl,fun h=>by cases h⟩,hb1⟩
    · go_wp2_with fail
      go_round
      case rel =>
       refine ⟨i+1,by omega,by go_num,fun j y hj hy=>?_⟩
       by_cases e:j=i
       · subst e
         rw [HT.out] at hy
         cases hy
         rw [HC.out];omega
       · exact HA.out j y (by omega) hy
      case measure=>simp [intOf];omega
  · obtain rfl:i=k:=by omega
    go_wp2_with fail
    go_ret
    refine ⟨⟨true,rfl,fun _=>⟨by rw [HLV.out];omega,by rw [HLA.out];omega,by rw [HLT.out];omega,fun t ht=>?_⟩⟩,hb1⟩;obtain ⟨j,hj⟩:=List.getElem?_of_mem ht;exact HA.out j t (by rw [←HLT.out];exact (Zs hj).1) hj
theorem Qql (A:Option Addr)(n m:Nat)(c:Int)(V:World):(Instr.field 48 (.agg #[.slice A n m,.int .i64 c]) 1).run prog V=.ok (.int .i64 c) V:=by kernel_rfl
set_option maxHeartbeats 400000 in
set_option maxRecDepth 20000 in
theorem may3_any (A B C:Option Addr)(n m k c d e:Nat)(N:Qaj)(w:World)(h:Qbm w A B C n m k N)(hn:n≤9223372036854775807)(hm:m≤9223372036854775807)(hk:k≤9223372036854775807) :
 Calls prog 71 #[.agg #[.slice A n c,.slice B m d,.slice C k e]] w fun e w'=>Qhr (FewOk N∧Qas N) e∧Below w.heap.size w w':=by
 go_enter func71,ntmps71
 go_wp2_with fail
 (refine Qac ?_;intro w1 hw1)
 have hb1:Below w.heap.size w w1:=by rw [hw1];exact Qae
 have hN1:Blk w1 w.heap.size 26 #[.slice A n c,.slice B m d,.slice C k e]:=by rw [hw1];exact Blk.new _ _ _
 clear hw1;with_reducible refine (few_any A B C n m k c d e N w1 (h.below hb1)).mono ?_
 rintro e' w2 ⟨⟨b,rfl,hf⟩,hb2⟩;have hb2':=Zb hb1 hb2;obtain ⟨n0,n1,n2⟩:=(hN1.below hb2 hN1.lt).three
 cases b
 · go_wp2_with fail
   go_ret
   exact ⟨⟨false,rfl,fun h=>by cases h⟩,Qae⟩
 have HF:=Zh (hf rfl);clear hf
 go_wp2_with fail
 with_reducible refine (Qiz A B C n m k c d e N w2 (h.below hb2') hn hm hk).mono ?_
 rintro e' w3 ⟨⟨A4,k4,c4,x,rfl,hx⟩,hb3⟩;have hb3':=Zb hb2' hb3;have hfe:=Qql A4 k4 c4 x w3;clear hn hm hk h n0 n1 n2
 rcases hx with ⟨rfl,hG⟩|hx
 · have HG:=Zh hG
   clear hG
   go_wp2_with fail
   go_ret
   exact ⟨⟨true,rfl,fun _=>⟨HF.out,HG.out⟩⟩,hb3'⟩
 · go_wp2_with fail
   go_ret
   exact ⟨⟨_,rfl,fun h=>absurd (by simpa using h) hx⟩,hb3'⟩
structure Quw (N:Qaj):Prop where
 v:N.vs.length≤24
 a:N.ar.length≤90
 few:FewOk N
 ok:Qas N
set_option maxHeartbeats 400000 in
set_option maxRecDepth 20000 in
theorem Qun (A B C:Option Addr)(n m k c d e:Nat)(N:Qaj)(w:World)(h:Qbm w A B C n m k N)(hk:k≤9223372036854775807) :
 Calls prog 33 #[.agg #[.slice A n c,.slice B m d,.slice C k e]] w fun e w'=>Qhr (Quw N) e∧Below w.heap.size w w':=by
 have HLV:=Zh h.1.1;have HLA:=Zh h.2.1.1;have HH:=Zh h;have HK:=Zh hk;clear hk h
 by_cases q0:(n:Int)≤24
 rotate_left
 · go_enter func33,ntmps33
   go_wp2_with fail
   go_ret
   exact ⟨⟨false,rfl,fun h=>by cases h⟩,Qae⟩
 by_cases q1:(m:Int)≤90
 rotate_left
 · go_enter func33,ntmps33
   go_wp2_with fail
   go_ret
   exact ⟨⟨false,rfl,fun h=>by cases h⟩,Qae⟩
 go_enter func33,ntmps33
 go_wp2_with fail
 (refine Qac ?_;intro w1 hw1)
 have hb1:Below w.heap.size w w1:=by rw [hw1];exact Qae
 clear hw1;with_reducible refine (may3_any A B C n m k c d e N w1 (HH.out.below hb1) (by omega) (by omega) HK.out).mono ?_
 rintro e' w2 ⟨⟨b,rfl,hf⟩,hb2⟩;have HF:=Zh hf;clear hf;have hb2':=Zb hb1 hb2
 go_wp2_with fail
 go_ret
 exact ⟨⟨b,rfl,fun h=>⟨by rw [HLV.out];omega,by rw [HLA.out];omega,(HF.out h).1,(HF.out h).2⟩⟩,hb2'⟩
theorem Qtv:(Tryz.prog.info? 2).map (fun i=>(i.zero,i.size,i.bytes))=some (some (.int .i64 0),1,8):=by kernel_rfl
set_option maxHeartbeats 1000000 in
theorem Que (A:Option Addr)(n c:Nat)(t:Qbw)(w:World)(h:RdI w A n t.costs)(hn:n≤1000000) :
 Calls prog 89 #[.agg #[.int .i64 t.ins,.int .i64 t.outs,.slice A n c]] w fun e w'=>∃ A' c',e=.returned (.agg #[.int .i64 t.ins,.int .i64 t.outs,.slice A' n c'])∧Own w' w.heap.size 2 1 A' n c' (Qad t.costs)∧Below w.heap.size w w':=by
 obtain ⟨i,o,cs⟩:=t;have h:RdI w A n cs:=h;simp only;have HR:=Zh h;clear h
 go_enter func89,ntmps89
 go_wp2_with fail
 (refine Qah ?_;intro w1 hw1)
 have hb1:Below w.heap.size w w1:=by rw [hw1];exact Qae
 have hT1:Blk w1 w.heap.size 75 #[.int .i64 i,.int .i64 o,.slice A n c]:=by rw [hw1];exact Qau
 have hB1:Blk w1 (w.heap.size+1) 143 #[.int .i64 0,.int .i64 0,.slice none 0 0]:=by rw [hw1];exact Qau
 have hz1:w1.heap.size=w.heap.size+1+1:=by rw [hw1];simp
 clear hw1;obtain ⟨t0,t1,t2⟩:=hT1.three;have hb0:Below (w.heap.size+1) w1 w1.drew:=(Zr _ _).drew;have HSX:=Zh (show ∀ V,Below (w.heap.size+1) w1 V→V.cell? ⟨w.heap.size,0,none⟩=some (.int .i64 i)∧V.cell? ⟨w.heap.size,1,none⟩=some (.int .i64 o)∧V.cell? ⟨w.heap.size,2,none⟩=some (.slice A n c) from fun V hV=>⟨(hV.cell (Nat.lt_succ_self _)).trans t0,(hV.cell (Nat.lt_succ_self _)).trans t1,(hV.cell (Nat.lt_succ_self _)).trans t2⟩)
 clear t0 t1 t2;refine wp_region_held_drew (S:=fun V=>Below (w.heap.size+1) w1 V) (by kernel_rfl) hb0 (fun _=>?_);refine tz 0 3 ?_;refine tz 1 4 ?_;refine tz 2 5 ?_;refine tz 3 6 ?_;refine tz 5 8 ?_;refine tz 6 9 ?_;refine Zk 4 (fun K hK=>?_);go_simp;obtain ⟨W,hW⟩:∃ W,W=(w1.alloc (.cells #[] 2)).drew:=⟨_,rfl⟩;rw [←hW]
 have hownW:Own W (w.heap.size+1+1) 2 1 (some ⟨w1.heap.size,0,none⟩) 0 0 []:=by
  rw [hW];exact Own.drew (Own.lit w1 #[] 0 (by omega) (by omega) rfl)
 rw [hz1] at hownW;have hbW:Below (w.heap.size+1) w1 W:=by rw [hW];exact ((Zr _ _).alloc (by omega) _).drew
 have hB2:Blk W (w.heap.size+1) 143 #[.int .i64 0,.int .i64 0,.slice none 0 0]:=by rw [hW];exact Qck
 have hbwW:Below w.heap.size w W:=hb1.trans (hbW.mono (by omega));have hrW:Rds W 1 A n (Qad cs):=(HR.out.below hbwW).rdsI;have hzW:w.heap.size+1+1≤W.heap.size:=by have:=hbW.size;omega
 clear hW;refine hK.out _ _ hbW (fun _=>?_);clear hK K;refine Zk 7 (fun K hK=>?_);with_reducible refine Qai (some 10) rfl rfl (.tmp 7) (.tmp 9) 30 rfl 2 _ 1 8 Qtv underlying30 rfl (by omega) rfl rfl hownW hrW (Qak _) (by omega) (by omega) hzW ?_
 intro A' c' w' hown' hg' _;have hb5:Below (w.heap.size+1) w1 w':=Bel.grownOwn hbW hg' (hownW.mono (by omega)) (by omega);have hb6:Below w.heap.size w w':=Bel.grownOwn hbwW hg' (hownW.mono (by omega)) (by omega);have hB':=hB2.grown hg' (hownW.ne (by omega));rw [Nat.zero_add,List.nil_append] at hown';have HO:=Zh (hown'.mono (show w.heap.size+2≤w.heap.size+1+1 by omega))
 refine hK.out _ _ hb5 (fun _=>?_);clear hK K hownW hrW hg' hown';simp only [Act.put,List.setIfInBounds_toArray,List.set_cons_zero,List.set_cons_succ,Nat.zero_add];obtain ⟨c0,c1,c2⟩:=hB'.three;have f0:=hB'.frozen 0;have f1:=hB'.frozen 1;have f2:=hB'.frozen 2;refine tz 8 11 ?_;refine Zk 9 (fun K hK=>?_);go_simp;refine hK.out _ _ (((hb5.setCell (Zn _) _).setCell (Zn _) _).setCell (Zn _) _) (fun _=>?_);clear hK K;refine Zd ?_
 go_wp2_with fail
 refine bodyPost_ret (v:=.agg #[.int .i64 i,.int .i64 o,.slice A' n c']) (by simp [results,results89,go_sem,c0,c1,c2]) rfl ?_;refine ⟨A',c',rfl,?_,Qae⟩;have:=ownsRow_setCell_below (ownsRow_setCell_below (ownsRow_setCell_below HO.out (a:=⟨w.heap.size+1,0,none⟩) (by show w.heap.size+1<w.heap.size+2;omega) (.int .i64 i)) (a:=⟨w.heap.size+1,1,none⟩) (by show w.heap.size+1<w.heap.size+2;omega) (.int .i64 o)) (a:=⟨w.heap.size+1,2,none⟩) (by show w.heap.size+1<w.heap.size+2;omega) (.slice A' n c')
 exact Own.mono this (by omega)
def YwO (W:World)(B:Nat)(A:Option Addr)(n c:Nat)(xs:List Value)(ls:List Qbw):Prop :=
 Own W B 143 3 A n c xs∧ls.length=n∧∀ j t,ls[j]?=some t→∃ A2 n2 c2,xs[j*3]?=some (.int .i64 t.ins)∧xs[j*3+1]?=some (.int .i64 t.outs)∧xs[j*3+2]?=some (.slice A2 n2 c2)∧RdI W A2 n2 t.costs∧(∀ g,Qab A2=some g→B≤g∧g<W.heap.size∧Qab A≠some g)∧n2≤c2∧c2≤9223372036854775807
theorem YwO.nil (W:World)(B:Nat):YwO W B none 0 0 [] []:=⟨Own.nil _ _ _ _,rfl,fun j l h=>by simp at h⟩
theorem YwO.rdY {W:World}{B n c:Nat}{A:Option Addr}{xs:List Value}{ls:List Qbw}(h:YwO W B A n c xs ls):RdY W A n ls :=
 ⟨h.2.1,fun i t ht=>by
  obtain ⟨A2,n2,c2,h1,h2,h3,h4,_,h5,h6⟩:=h.2.2 i t ht;obtain ⟨b,o,e,k1⟩:=h.1.rds.2 _ _ h1;obtain ⟨b',o',e',k2⟩:=h.1.rds.2 _ _ h2;rw [e] at e';cases e'
  obtain ⟨b',o',e',k3⟩:=h.1.rds.2 _ _ h3;rw [e] at e';cases e'
  exact ⟨b,o,e,k1,by rw [Nat.add_assoc];exact k2,A2,n2,c2,by rw [Nat.add_assoc];exact k3,h4,h5,h6⟩⟩
theorem YwO.push {W w':World}{B n c c' m d:Nat}{A A' R:Option Addr}{xs:List Value}{ls:List Qbw}{t:Qbw}(h:YwO W B A n c xs ls)
 (hown:Own w' B 143 3 A' (n+1) c' (xs ++[.int .i64 t.ins,.int .i64 t.outs,.slice R m d])) (hg:W.grownBy w' (Qab A)) (hat:Qab A'=Qab A∨Qab A'=some W.heap.size)
 (hr:RdI W R m t.costs) (hne:∀ g,Qab R=some g→B≤g∧g<W.heap.size∧Qab A≠some g) (h4:m≤d) (h5:d≤9223372036854775807):YwO w' B A' (n+1) c' (xs ++[.int .i64 t.ins,.int .i64 t.outs,.slice R m d]) (ls ++[t]):=by
 have hxl:xs.length=ls.length*3:=by rw [h.1.1,h.2.1]
 have new:∀ Y:Option Addr,(∀ g,Qab Y=some g→B≤g∧g<W.heap.size∧Qab A≠some g)→∀ g,Qab Y=some g→B≤g∧g<w'.heap.size∧Qab A'≠some g:=fun Y hY g e=>by
  obtain ⟨k0,k1,k2⟩:=hY g e;refine ⟨k0,Nat.lt_of_lt_of_le k1 hg.size,fun e2=>?_⟩
  rcases hat with hat|hat
  · exact k2 (by rw [←hat];exact e2)
  · rw [hat] at e2
    injection e2 with e2
    omega
 refine ⟨hown,by simp [h.2.1],fun j t' hl=>?_⟩
 rcases Nat.lt_trichotomy j ls.length with hj|hj|hj
 · rw [List.getElem?_append_left hj] at hl
   obtain ⟨A2,n2,c2,p1,p2,p3,k2,k3,k4,k5⟩:=h.2.2 j t' hl;exact ⟨A2,n2,c2,by rw [List.getElem?_append_left (by omega)];exact p1,by rw [List.getElem?_append_left (by omega)];exact p2,by rw [List.getElem?_append_left (by omega)];exact p3,k2.grownN hg (fun g e=>(k3 g e).2.2),new A2 k3,k4,k5⟩
 · subst hj
   rw [List.getElem?_append_right (Zn _),Nat.sub_self] at hl
   cases hl
   refine ⟨R,m,d,?_,?_,?_,hr.grownN hg (fun g e=>(hne g e).2.2),new R hne,h4,h5⟩
   · rw [←hxl,List.getElem?_append_right (Zn _),Nat.sub_self];rfl
   · rw [←hxl,List.getElem?_append_right (by omega),Nat.add_sub_cancel_left];rfl
   · rw [←hxl,List.getElem?_append_right (by omega),Nat.add_sub_cancel_left];rfl
 · rw [List.getElem?_eq_none (by simp;omega)] at hl
   cases hl
theorem YwO.below {W W':World}{B n c:Nat}{A:Option Addr}{xs:List Value}{ls:List Qbw}(h:YwO W B A n c xs ls)(hb:Below W.heap.size W W'):YwO W' B A n c xs ls :=
 ⟨h.1.below hb,h.2.1,fun i l hl=>by
  obtain ⟨A',n',c',p1,p2,p3,h2,h3,h4,h5⟩:=h.2.2 i l hl;exact ⟨A',n',c',p1,p2,p3,h2.below hb,fun g hg=>⟨(h3 g hg).1,Nat.lt_of_lt_of_le (h3 g hg).2.1 hb.size,(h3 g hg).2.2⟩,h4,h5⟩⟩
theorem YwO.far {W W':World}{B n c:Nat}{A:Option Addr}{xs:List Value}{ls:List Qbw}(h:YwO W B A n c xs ls){g:Nat} (hg:W.grownBy W' (some g)) (hB:g<B):YwO W' B A n c xs ls :=
 ⟨h.1.far hg (.inr (fun e=>by have:=(h.1.lt g e).1;omega)),h.2.1,fun i l hl=>by
  obtain ⟨A',n',c',p1,p2,p3,h2,h3,h4,h5⟩:=h.2.2 i l hl;refine ⟨A',n',c',p1,p2,p3,h2.grownN hg (fun k hk e=>?_),fun k hk=>⟨(h3 k hk).1,Nat.lt_of_lt_of_le (h3 k hk).2.1 hg.size,(h3 k hk).2.2⟩,h4,h5⟩
  cases e
  have:=(h3 g hk).1;omega⟩
def Le (w w':World):Prop:=∀ a v,w.cell? a=some v→w'.cell? a=some v
theorem Le.trans {a b c:World}(h:Le a b)(k:Le b c):Le a c:=fun x v hx=>k x v (h x v hx)
theorem Le.below {w w':World}(hb:Below w.heap.size w w'):Le w w':=fun _ _ h=>Zc hb (Zn _) h
section
variable {w w':World} {A:Option Addr} {n:Nat}
theorem RdK.le {k:IntKind}{l:List Int}(h:RdK k w A n l)(hl:Le w w'):RdK k w' A n l :=
 ⟨h.1,fun i x hx=>by obtain ⟨b,o,e,hc⟩:=h.2 i x hx;exact ⟨b,o,e,hl _ _ hc⟩⟩
theorem RdP.le {l:List (Int×Int)} (h:RdP w A n l) (hl:Le w w'):RdP w' A n l :=
 ⟨h.1,fun i x hx=>by obtain ⟨b,o,e,hc,hd⟩:=h.2 i x hx;exact ⟨b,o,e,hl _ _ hc,hl _ _ hd⟩⟩
theorem Rd3.le {l:List Tri}(h:Rd3 w A n l)(hl:Le w w'):Rd3 w' A n l :=
 ⟨h.1,fun i x hx=>by obtain ⟨b,o,e,h1,h2,h3⟩:=h.2 i x hx;exact ⟨b,o,e,hl _ _ h1,hl _ _ h2,hl _ _ h3⟩⟩
theorem RdT.le {ls:List (List Int)} (h:RdT w A n ls) (hl:Le w w'):RdT w' A n ls :=
 ⟨h.1,fun i l hx=>by obtain ⟨b,o,A',n',c',h1,h2,h3,h4⟩:=h.2 i l hx;exact ⟨b,o,A',n',c',h1,hl _ _ h2,h3.le hl,h4⟩⟩
theorem Qnz.le {b o:Nat}{t:Qbw}(h:Qnz w b o t)(hl:Le w w'):Qnz w' b o t:=by
 obtain ⟨h1,h2,A,n,c,h3,h4,h5⟩:=h;exact ⟨hl _ _ h1,hl _ _ h2,A,n,c,hl _ _ h3,h4.le hl,h5⟩
theorem RdY.le {l:List Qbw}(h:RdY w A n l)(hl:Le w w'):RdY w' A n l :=
 ⟨h.1,fun i t ht=>by obtain ⟨b,o,e,hc⟩:=h.2 i t ht;exact ⟨b,o,e,hc.le hl⟩⟩
theorem Qbm.le {B C:Option Addr}{m k:Nat}{N:Qaj}(h:Qbm w A B C n m k N)(hl:Le w w'):Qbm w' A B C n m k N:=⟨h.1.le hl,h.2.1.le hl,h.2.2.le hl⟩
end
noncomputable def msk (W:World) (G:Nat→Prop):World:=by classical exact { W with heap:=W.heap.mapIdx (fun i o=>if G i then o else .cells #[] 0) }
theorem Qno {W:World}{G:Nat→Prop}{b:Nat}(h:G b):(msk W G).heap[b]?=W.heap[b]?:=by
 unfold msk;simp only [Array.getElem?_mapIdx]
 cases W.heap[b]? with
 | none=>rfl
 | some o=>simp [h]
theorem Qar {W:World}{G:Nat→Prop}{a:Addr}{v:Value}:(msk W G).cell? a=some v↔G a.block∧W.cell? a=some v:=by
 by_cases h:G a.block
 · unfold World.cell?
   rw [Qno h];simp [h]
 · unfold World.cell? msk
   simp only [Array.getElem?_mapIdx]
   cases W.heap[a.block]? with
   | none=>simp [h]
   | some o=>simp [h]
theorem Qbt (W:World)(G:Nat→Prop):Le (msk W G) W:=fun _ _ h=>(Qar.1 h).2
theorem Qbn {W:World}{G G':Nat→Prop}(h:∀ b,G b→G' b):Le (msk W G) (msk W G'):=fun _ _ hc=>Qar.2 ⟨h _ (Qar.1 hc).1,(Qar.1 hc).2⟩
def Qaz (G:Nat→Prop)(W W':World):Prop:=∀ b,G b→b<W.heap.size→W'.heap[b]?=W.heap[b]?
theorem Qaz.refl (G:Nat→Prop)(W:World):Qaz G W W:=fun _ _ _=>rfl
theorem Qaz.trans {G:Nat→Prop}{a b c:World}(h:Qaz G a b)(k:Qaz G b c)(hz:a.heap.size≤b.heap.size):Qaz G a c:=fun i hi hl=>(k i hi (by omega)).trans (h i hi hl)
theorem Qaz.below {G:Nat→Prop}{W W':World}(h:Below W.heap.size W W'):Qaz G W W':=fun b _ hl=>h.block b hl
theorem Qaz.mono {G G':Nat→Prop}{W W':World}(h:Qaz G W W')(hs:∀ b,G' b→G b):Qaz G' W W':=fun b hb hl=>h b (hs b hb) hl
theorem Qaz.grown {G:Nat→Prop}{W W':World}{r:Option Nat}(h:W.grownBy W' r)(hr:∀ b,G b→r≠some b):Qaz G W W':=fun b hb hl=>h.block b hl (fun e=>hr b hb e.symm)
theorem Qaz.set {G:Nat→Prop}(W:World)(g i:Nat)(v:Value)(h:¬G g):Qaz G W (W.setCell ⟨g,i,none⟩ v):=Qaz.grown (Qaa W g i v) (fun b hb e=>h (by cases e;exact hb))
theorem Qaz.msk {G:Nat→Prop}{W W':World}(h:Qaz G W W'):Le (msk W G) (msk W' G):=fun a v hc=>by
 obtain ⟨h1,h2⟩:=Qar.1 hc;refine Qar.2 ⟨h1,?_⟩;rw [World.cell?_of_block (h _ h1 (Qag h2))];exact h2
section
variable {W:World} {G:Nat→Prop} {A:Option Addr} {n:Nat}
theorem RdK.msk {k:IntKind}{l:List Int}(h:RdK k W A n l)(hg:∀ b,Qab A=some b→G b):RdK k (msk W G) A n l :=
 ⟨h.1,fun i x hx=>by obtain ⟨b,o,e,hc⟩:=h.2 i x hx;exact ⟨b,o,e,Qar.2 ⟨hg b (by rw [e];rfl),hc⟩⟩⟩
theorem RdP.msk {l:List (Int×Int)} (h:RdP W A n l) (hg:∀ b,Qab A=some b→G b):RdP (msk W G) A n l :=
 ⟨h.1,fun i x hx=>by obtain ⟨b,o,e,hc,hd⟩:=h.2 i x hx;exact ⟨b,o,e,Qar.2 ⟨hg b (by rw [e];rfl),hc⟩,Qar.2 ⟨hg b (by rw [e];rfl),hd⟩⟩⟩
theorem Rd3.msk {l:List Tri}(h:Rd3 W A n l)(hg:∀ b,Qab A=some b→G b):Rd3 (msk W G) A n l :=
 ⟨h.1,fun i x hx=>by
  obtain ⟨b,o,e,h1,h2,h3⟩:=h.2 i x hx;have hb:=hg b (by rw [e];rfl);exact ⟨b,o,e,Qar.2 ⟨hb,h1⟩,Qar.2 ⟨hb,h2⟩,Qar.2 ⟨hb,h3⟩⟩⟩
end
/-! Rows of Qcf, each of the call's own, as the cells of one block. -/
def IkO (W:World)(B g n:Nat) (ls:List (List Int)):Prop :=
 ls.length=n∧g<B∧∃ cs,Blk W g 93 cs∧cs.size=n∧(∀ (v:Nat) (l:List Int),ls[v]?=some l→∃ A c,cs[v]?=some (.slice A l.length c)∧Own W B 3 1 A l.length c (Qad l)) ∧
  ∀ (v v':Nat) A m c A' m' c',v≠v'→cs[v]?=some (.slice A m c)→cs[v']?=some (.slice A' m' c')→Dj A A'
theorem IkO.start {W:World}{B g n:Nat}(hg:g<B) (h:Blk W g 93 (Qba (.slice none 0 0) n)):IkO W B g n (List.replicate n []):=by
 refine ⟨by simp,hg,_,h,by simp [Qba],fun v l hl=>?_,fun v v' A m c A' m' c' _ h1 _=>?_⟩
 · obtain ⟨hv,e⟩:=Zs hl
   simp at e;subst e;refine ⟨none,0,?_,Own.nil _ _ _ _⟩;simp at hv;simp [Qba,hv]
 · have e:=(Array.getElem?_eq_some_iff.1 h1).2
   simp [Qba] at e;obtain ⟨rfl,_,_⟩:=e;exact .inl rfl
theorem IkO.grown {W W':World}{B g n:Nat}{r:Option Nat} {ls:List (List Int)} (h:IkO W B g n ls) (hg:W.grownBy W' r) (hr:∀ b,r=some b→b≠g∧b<B):IkO W' B g n ls:=by
 obtain ⟨h1,h2,cs,h3,h4,h5,h6⟩:=h;refine ⟨h1,h2,cs,h3.grown hg (fun e=>(hr g e).1 rfl),h4,fun v l hl=>?_,h6⟩;obtain ⟨A,c,k1,k2⟩:=h5 v l hl;refine ⟨A,c,k1,k2.far hg ?_⟩
 cases hA:Qab A with
 | none=>exact .inl rfl
 | some b =>
  refine .inr (fun e=>?_);have h8:=(k2.lt b hA).1;have h9:=(hr b e.symm).2;omega
theorem IkO.below {W W':World}{B g n:Nat} {ls:List (List Int)} (h:IkO W B g n ls) (hb:Below W.heap.size W W'):IkO W' B g n ls:=by
 obtain ⟨h1,h2,cs,h3,h4,h5,h6⟩:=h
 exact ⟨h1,h2,cs,h3.below hb h3.lt,h4,fun v l hl=>by
  obtain ⟨A,c,k1,k2⟩:=h5 v l hl;exact ⟨A,c,k1,k2.below hb⟩,h6⟩
theorem IkO.row {W:World}{B g n u:Nat} {ls:List (List Int)} (h:IkO W B g n ls) (hu:u<n):∃ A c l,ls[u]?=some l∧W.cell? ⟨g,u,none⟩=some (.slice A l.length c)∧W.frozen? ⟨g,u,none⟩=false∧Own W B 3 1 A l.length c (Qad l):=by
 obtain ⟨h1,h2,cs,h3,h4,h5,h6⟩:=h;have hl:ls[u]?=some ls[u]:=Zg (by omega);obtain ⟨A,c,k1,k2⟩:=h5 u _ hl;exact ⟨A,c,_,hl,by rw [h3.cell];exact k1,h3.frozen u,k2⟩
theorem IkO.lt {W:World}{B g n:Nat} {ls:List (List Int)} (h:IkO W B g n ls):g<W.heap.size:=by
 obtain ⟨_,_,cs,h3,_⟩:=h;exact h3.lt
theorem IkO.push {W w':World}{B g n u c c':Nat}{A A':Option Addr} {ls:List (List Int)} {l:List Int} {k:Int} (h:IkO W B g n ls) (hl:ls[u]?=some l) (hc:W.cell? ⟨g,u,none⟩=some (.slice A l.length c))
 (hown:Own w' B 3 1 A' (l.length+1) c' (Qad l ++Qad [k])) (hg:W.grownBy w' (Qab A)) (hat:Qab A'=Qab A∨Qab A'=some W.heap.size) :
 IkO (w'.setCell ⟨g,u,none⟩ (.slice A' (l.length+1) c')) B g n (ls.set u (l ++[k])):=by
 obtain ⟨h1,h2,cs,h3,h4,h5,h6⟩:=h;have hu:=(Zs hl).1;have hcs:cs[u]?=some (.slice A l.length c):=by rw [←h3.cell];exact hc
 obtain ⟨A0,c0,k1,hown0⟩:=h5 u l hl;rw [hcs] at k1
 cases k1
 have hgA:Qab A≠some g:=hown0.ne h2;have hgA':Qab A'≠some g:=hown.ne h2;refine ⟨by rw [List.length_set];exact h1,h2,_,(h3.grown hg hgA).set_ u (.slice A' (l.length+1) c'),by simpa using h4,fun v l' hl'=>?_,fun v v' X m d X' m' d' hne e1 e2=>?_⟩
 · by_cases e:u=v
   · subst e
     rw [List.getElem?_set_self hu] at hl'
     cases hl'
     refine ⟨A',c',by rw [Array.getElem?_setIfInBounds_self_of_lt (by omega),List.length_append];rfl,?_⟩;rw [List.length_append,Qbz];exact hown.far (Qaa _ _ _ _) (.inr hgA')
   · rw [List.getElem?_set_ne e] at hl'
     obtain ⟨X,d,k1,k2⟩:=h5 v l' hl';refine ⟨X,d,by rw [Array.getElem?_setIfInBounds_ne e];exact k1,(k2.far hg (h6 u v _ _ _ _ _ _ e hcs k1).far).far (Qaa _ _ _ _) (.inr (k2.ne h2))⟩
 · have old:∀ v X m d,u≠v→cs[v]?=some (.slice X m d)→Dj A' X:=fun v X m d hv e3=>by
    have hv2:=(Array.getElem?_eq_some_iff.1 e3).1;obtain ⟨X0,d0,k1,k2⟩:=h5 v _ (Zg (show v<ls.length by omega))
    rw [e3] at k1
    cases k1
    exact (h6 u v _ _ _ _ _ _ hv hcs e3).next k2 hat
   by_cases a1:u=v
   · subst a1
     rw [Array.getElem?_setIfInBounds_self_of_lt (by omega)] at e1
     cases e1
     rw [Array.getElem?_setIfInBounds_ne hne] at e2;exact old v' X' m' d' hne e2
   · rw [Array.getElem?_setIfInBounds_ne a1] at e1
     by_cases a2:u=v'
     · subst a2
       rw [Array.getElem?_setIfInBounds_self_of_lt (by omega)] at e2
       cases e2
       exact (old v X m d a1 e1).symm
     · rw [Array.getElem?_setIfInBounds_ne a2] at e2
       exact h6 v v' X m d X' m' d' hne e1 e2
theorem IkO.cellG {W w':World}{B g n u:Nat}{r:Option Nat} {ls:List (List Int)} (h:IkO W B g n ls) (hu:u<n) (hg:W.grownBy w' r) (hr:r≠some g):∃ v,w'.cell? ⟨g,u,none⟩=some v∧w'.frozen? ⟨g,u,none⟩=false:=by
 obtain ⟨h1,h2,cs,h3,h4,h5,h6⟩:=h;have hb:=h3.grown hg hr;exact ⟨_,by rw [hb.cell];exact Array.getElem?_eq_getElem (by omega),hb.frozen u⟩
theorem IkO.rdM {W:World}{G:Nat→Prop}{B g n:Nat} {ls:List (List Int)} (h:IkO W B g n ls) (hg:G g) (hB:∀ b,B≤b→b<W.heap.size→G b):RdT (msk W G) (some ⟨g,0,none⟩) n ls:=by
 obtain ⟨h1,h2,cs,h3,h4,h5,h6⟩:=h;refine ⟨h1,fun i l hl=>?_⟩;obtain ⟨A,c,k1,k2⟩:=h5 i l hl;exact ⟨g,0,A,l.length,c,rfl,Qar.2 ⟨hg,by rw [Nat.zero_add,h3.cell];exact k1⟩,(k2.rds.rdI).msk (fun b hb=>hB b (k2.lt b hb).1 (k2.lt b hb).2),k2.cap,k2.capMax⟩
/-! The lists of a graph. -/
def idx (f:Tri→Int)(l:List Tri)(v:Int):List Int:=(l.zipIdx.filter (fun p=>f p.1 == v)).map (fun p=>(p.2:Int))
theorem idx_nil (f:Tri→Int)(v:Int):idx f [] v=[]:=rfl
theorem idx_snoc (f:Tri→Int)(l:List Tri)(a:Tri)(v:Int):idx f (l ++[a]) v=idx f l v ++(if f a == v then [(l.length:Int)] else []):=by
 unfold idx;rw [List.zipIdx_append,List.filter_append,List.map_append]
 congr 1
 cases h:f a == v <;> simp [h]
theorem idx_take {f:Tri→Int}{l:List Tri}{a:Tri}{k:Nat} (h:l[k]?=some a) (v:Int):idx f (l.take (k+1)) v=idx f (l.take k) v ++(if f a == v then [(k:Int)] else []):=by
 have hlt:=(Zs h).1;rw [List.take_succ_eq_append_getElem hlt,(Zs h).2,idx_snoc,List.length_take,Nat.min_eq_left (by omega)]
theorem Qhb (p:Tri→Bool):∀ (l:List Tri) (i:Nat),(l.zipIdx i).countP (fun q=>p q.1)=l.countP p
 | [],_=>rfl
 | a::l,i=>by
  rw [List.zipIdx_cons,List.countP_cons,List.countP_cons,Qhb p l (i+1)]
theorem Qln (f:Tri→Int)(l:List Tri)(v:Int):(idx f l v).length=l.countP (fun a=>f a == v):=by
 unfold idx;rw [List.length_map,←List.countP_eq_length_filter];exact Qhb (fun a=>f a == v) l 0
theorem Qpf {f:Tri→Int}{l:List Tri}{v x:Int}:x∈idx f l v↔∃ (i:Nat) (a:Tri),x=(i:Int)∧l[i]?=some a∧f a=v:=by
 unfold idx;simp only [List.mem_map,List.mem_filter,beq_iff_eq]
 constructor
 · rintro ⟨⟨a,i⟩,⟨h1,h2⟩,rfl⟩
   exact ⟨i,a,rfl,List.mem_zipIdx_iff_getElem?.1 h1,h2⟩
 · rintro ⟨i,a,rfl,h1,h2⟩
   exact ⟨(a,i),⟨List.mem_zipIdx_iff_getElem?.2 h1,h2⟩,rfl⟩
def Qjz (f:Tri→Int)(l:List Tri)(n:Nat):List (List Int):=(List.range n).map (fun v:Nat=>idx f l (v:Int))
theorem Qim (f:Tri→Int)(l:List Tri)(n:Nat):(Qjz f l n).length=n:=by simp [Qjz]
theorem Qfk {f:Tri→Int}{l:List Tri}{n v:Nat}(h:v<n):(Qjz f l n)[v]?=some (idx f l (v:Int)):=by
 unfold Qjz;rw [List.getElem?_map,List.getElem?_range h]
 rfl
theorem Qqm (f:Tri→Int)(n:Nat):Qjz f [] n=List.replicate n []:=by
 apply List.ext_getElem?
 intro i
 rcases Nat.lt_or_ge i n with h|h
 · rw [Qfk h,idx_nil];simp [h]
 · rw [List.getElem?_eq_none (by rw [Qim];exact h),List.getElem?_eq_none (by simpa using h)]
theorem Qnu {f:Tri→Int}{l:List Tri}{n v k:Nat}{a:Tri} (ha:l[k]?=some a) (hv:f a=(v:Int)) (h:v<n) :
 (Qjz f (l.take k) n).set v (idx f (l.take k) (v:Int) ++[(k:Int)])=Qjz f (l.take (k+1)) n:=by
 apply List.ext_getElem?
 intro i
 rcases Nat.lt_or_ge i n with hi|hi
 · rw [Qfk hi,idx_take ha]
   by_cases e:v=i
   · subst e
     rw [List.getElem?_set_self (by rw [Qim];exact h)];simp [hv]
   · rw [List.getElem?_set_ne e,Qfk hi]
     have:(f a == (i:Int))=false:=by rw [hv];simp;omega
     simp [this]
 · rw [List.getElem?_eq_none (by rw [List.length_set,Qim];exact hi),List.getElem?_eq_none (by rw [Qim];exact hi)]
def Qew (l:List Tri)(k:Nat)(a:Tri):Int×Int:=(((idx (·.2.1) (l.take k) a.2.1).length:Nat),((idx (·.1) (l.take k) a.1).length:Nat))
def plcs (l:List Tri):List (Int×Int):=l.zipIdx.map (fun p=>Qew l p.2 p.1)
theorem Qir (l:List Tri):(plcs l).length=l.length:=by simp [plcs]
theorem Qgp {l:List Tri}{k:Nat}{a:Tri} (h:l[k]?=some a):(plcs l)[k]?=some (Qew l k a):=by
 unfold plcs;rw [List.getElem?_map,List.getElem?_zipIdx,h];simp
theorem Qqs (f:Tri→Int)(l:List Tri)(k:Nat)(v:Int):(idx f (l.take k) v).length≤k:=by rw [Qln];exact Qjm f l k v
def TabAt2 (w v:World)(b o:Nat)(t:Qbw):Prop:=w.cell? ⟨b,o,none⟩=some (.int .i64 t.ins)∧w.cell? ⟨b,o+1,none⟩=some (.int .i64 t.outs)∧∃ (A:Option Addr) (n c:Nat),w.cell? ⟨b,o+2,none⟩=some (.slice A n c)∧RdI v A n t.costs∧n≤c∧c≤9223372036854775807
def RdY2 (w v:World)(A:Option Addr)(n:Nat)(l:List Qbw):Prop:=l.length=n∧∀ i t,l[i]?=some t→∃ b o,A=some ⟨b,o,none⟩∧TabAt2 w v b (o+i*3) t
theorem RdY2.rdY {w v:World}{A:Option Addr}{n:Nat}{l:List Qbw}(h:RdY2 w v A n l)(hl:Le v w):RdY w A n l :=
 ⟨h.1,fun i t ht=>by
  obtain ⟨b,o,e,h1,h2,A',n',c',h3,h4,h5⟩:=h.2 i t ht;exact ⟨b,o,e,h1,h2,A',n',c',h3,h4.le hl,h5⟩⟩
theorem RdY2.le {w w' v v':World}{A:Option Addr}{n:Nat}{l:List Qbw}(h:RdY2 w v A n l)(hw:∀ b o x,Qab A=some b→w.cell? ⟨b,o,none⟩=some x→w'.cell? ⟨b,o,none⟩=some x)(hl:Le v v'):RdY2 w' v' A n l :=
 ⟨h.1,fun i t ht=>by
  obtain ⟨b,o,e,h1,h2,A',n',c',h3,h4,h5⟩:=h.2 i t ht;have hb:Qab A=some b:=by rw [e];rfl
  exact ⟨b,o,e,hw _ _ _ hb h1,hw _ _ _ hb h2,A',n',c',hw _ _ _ hb h3,h4.le hl,h5⟩⟩
def Qsz (W:World)(A:Option Addr):Prop:=∀ b,Qab A=some b→b<W.heap.size∧∀ o,W.frozen? ⟨b,o,none⟩=false
theorem Qsz.keep {W W':World}{A:Option Addr}(h:Qsz W A)(hz:W.heap.size≤W'.heap.size) (hk:∀ b,Qab A=some b→W'.heap[b]?=W.heap[b]?):Qsz W' A:=fun b hb =>
 ⟨Nat.lt_of_lt_of_le (h b hb).1 hz,fun o=>by rw [World.frozen?_of_block (hk b hb)];exact (h b hb).2 o⟩
theorem Own.warm {w:World}{B s n c:Nat}{e:TypeId}{A:Option Addr}{xs:List Value}(h:Own w B e s A n c xs):Qsz w A:=fun b hb=>by
 refine ⟨(h.lt b hb).2,fun o=>?_⟩
 rcases h.2 with ⟨h',_⟩|⟨g,cap,cur,h1,h2,h3,_⟩
 · cases h';cases hb
 · cases h1
   cases hb
   exact Blk.frozen (t:=e) (cs:=cur) h3 o
structure Qna (W:World) (G:Nat→Prop) (A B C:Option Addr) (n m k:Nat) (N:Qaj):Prop where
 vs:Rd3 (msk W G) A n N.vs
 ar:Rd3 W B m N.ar
 ts:RdY2 W (msk W G) C k N.ts
 wa:Qsz W B
 wt:Qsz W C
 ga:∀ b,Qab B=some b→¬G b
 gt:∀ b,Qab C=some b→¬G b
 ac:∀ b,Qab B=some b→Qab C≠some b
theorem Qdd {W W':World}{b o:Nat}{x:Value} (hk:W'.heap[b]?=W.heap[b]?) (h:W.cell? ⟨b,o,none⟩=some x):W'.cell? ⟨b,o,none⟩=some x:=by
 rw [World.cell?_of_block (a:=⟨b,o,none⟩) hk];exact h
theorem Rd3.keep {W W':World}{A:Option Addr}{n:Nat}{l:List Tri}(h:Rd3 W A n l) (hk:∀ b,Qab A=some b→W'.heap[b]?=W.heap[b]?):Rd3 W' A n l :=
 ⟨h.1,fun i x hx=>by
  obtain ⟨b,o,e,h1,h2,h3⟩:=h.2 i x hx;have hb:=hk b (by rw [e];rfl);exact ⟨b,o,e,Qdd hb h1,Qdd hb h2,Qdd hb h3⟩⟩
section
variable {W W':World} {G:Nat→Prop} {A B C:Option Addr} {n m k:Nat} {N:Qaj}
theorem Qna.rd (h:Qna W G A B C n m k N):Qbm W A B C n m k N:=⟨h.vs.le (Qbt W G),h.ar,h.ts.rdY (Qbt W G)⟩
theorem Qna.keep (h:Qna W G A B C n m k N)(hz:W.heap.size≤W'.heap.size)(hG:Qaz G W W') (hB:∀ b,Qab B=some b→W'.heap[b]?=W.heap[b]?) (hC:∀ b,Qab C=some b→W'.heap[b]?=W.heap[b]?):Qna W' G A B C n m k N where
 vs:=h.vs.le hG.msk
 ar:=h.ar.keep hB
 ts:=h.ts.le (fun b _ _ hb hc=>Qdd (hC b hb) hc) hG.msk
 wa:=h.wa.keep hz hB
 wt:=h.wt.keep hz hC
 ga:=h.ga
 gt:=h.gt
 ac:=h.ac
theorem Qna.below (h:Qna W G A B C n m k N)(hb:Below W.heap.size W W'):Qna W' G A B C n m k N :=
 h.keep hb.size (Qaz.below hb) (fun b e=>hb.block b (h.wa b e).1) (fun b e=>hb.block b (h.wt b e).1)
theorem Qna.mono {G':Nat→Prop}(h:Qna W G A B C n m k N)(hs:∀ b,G b→G' b)(ha:∀ b,Qab B=some b→¬G' b)(ht:∀ b,Qab C=some b→¬G' b):Qna W G' A B C n m k N where
 vs:=h.vs.le (Qbn hs)
 ar:=h.ar
 ts:=h.ts.le (fun _ _ _ _ hc=>hc) (Qbn hs)
 wa:=h.wa
 wt:=h.wt
 ga:=ha
 gt:=ht
 ac:=h.ac
end
structure GrR (W:World) (F G:Nat→Prop) (g:Nat) (A B C I O P:Option Addr) (n m k c d e ci co cp:Nat) (N:Qaj):Prop where
 net:Qna W G A B C n m k N
 blk:Blk W g 149 #[.slice A n c,.slice B m d,.slice C k e,.slice I n ci,.slice O n co,.slice P m cp]
 gg:G g
 ins:RdT (msk W G) I n (Qjz (·.2.1) N.ar n)
 outs:RdT (msk W G) O n (Qjz (·.1) N.ar n)
 plc:RdP (msk W G) P m (plcs N.ar)
 sub:∀ b,(G b∨Qab B=some b∨Qab C=some b)→F b
 lt:∀ b,F b→b<W.heap.size
 ok:Qas N
 c0:n≤c∧c≤9223372036854775807
 c1:m≤d∧d≤9223372036854775807
 c2:k≤e∧e≤9223372036854775807
def GrO (W:World)(F:Nat→Prop)(g:Nat)(N:Qaj):Prop:=∃ (G:Nat→Prop) (A B C I O P:Option Addr) (n m k c d e ci co cp:Nat),GrR W F G g A B C I O P n m k c d e ci co cp N
structure GrV (W:World) (g:Nat) (A B C I O P:Option Addr) (n m k c d e ci co cp:Nat) (N:Qaj):Prop where
 net:Qbm W A B C n m k N
 n0:W.cell? ⟨g,0,none⟩=some (.slice A n c)
 n1:W.cell? ⟨g,1,none⟩=some (.slice B m d)
 n2:W.cell? ⟨g,2,none⟩=some (.slice C k e)
 n3:W.cell? ⟨g,3,none⟩=some (.slice I n ci)
 n4:W.cell? ⟨g,4,none⟩=some (.slice O n co)
 n5:W.cell? ⟨g,5,none⟩=some (.slice P m cp)
 ins:RdT W I n (Qjz (·.2.1) N.ar n)
 outs:RdT W O n (Qjz (·.1) N.ar n)
 plc:RdP W P m (plcs N.ar)
 ok:Qas N
 c0:n≤c∧c≤9223372036854775807
 c1:m≤d∧d≤9223372036854775807
 c2:k≤e∧e≤9223372036854775807
def Qgk (W:World)(g:Nat)(N:Qaj):Prop:=∃ (A B C I O P:Option Addr) (n m k c d e ci co cp:Nat),GrV W g A B C I O P n m k c d e ci co cp N
theorem Qgk.le {W W':World}{g:Nat}{N:Qaj}(h:Qgk W g N)(hl:Le W W'):Qgk W' g N:=by
 obtain ⟨A,B,C,I,O,P,n,m,k,c,d,e,ci,co,cp,h⟩:=h;exact ⟨A,B,C,I,O,P,n,m,k,c,d,e,ci,co,cp,h.net.le hl,hl _ _ h.n0,hl _ _ h.n1,hl _ _ h.n2,hl _ _ h.n3,hl _ _ h.n4,hl _ _ h.n5,h.ins.le hl,h.outs.le hl,h.plc.le hl,h.ok,h.c0,h.c1,h.c2⟩
theorem Qgk.below {W W':World}{g:Nat}{N:Qaj}(h:Qgk W g N)(hb:Below W.heap.size W W'):Qgk W' g N:=h.le (Le.below hb)
theorem Blk.six {w:World}{g:Nat}{t:TypeId}{a b c d e f:Value} (h:Blk w g t #[a,b,c,d,e,f]) :
 w.cell? ⟨g,0,none⟩=some a∧w.cell? ⟨g,1,none⟩=some b∧w.cell? ⟨g,2,none⟩=some c∧w.cell? ⟨g,3,none⟩=some d∧w.cell? ⟨g,4,none⟩=some e∧w.cell? ⟨g,5,none⟩=some f :=
 ⟨Zq h,Zq h,Zq h,Zq h,Zq h,Zq h⟩
theorem GrO.rd {W:World}{F:Nat→Prop}{g:Nat}{N:Qaj}(h:GrO W F g N):Qgk W g N:=by
 obtain ⟨G,A,B,C,I,O,P,n,m,k,c,d,e,ci,co,cp,h⟩:=h;obtain ⟨h0,h1,h2,h3,h4,h5⟩:=h.blk.six;exact ⟨A,B,C,I,O,P,n,m,k,c,d,e,ci,co,cp,h.net.rd,h0,h1,h2,h3,h4,h5,h.ins.le (Qbt W G),h.outs.le (Qbt W G),h.plc.le (Qbt W G),h.ok,h.c0,h.c1,h.c2⟩
theorem GrO.keep {W W':World}{F:Nat→Prop}{g:Nat}{N:Qaj}(h:GrO W F g N)(hz:W.heap.size≤W'.heap.size)(hF:Qaz F W W'):GrO W' F g N:=by
 obtain ⟨G,A,B,C,I,O,P,n,m,k,c,d,e,ci,co,cp,h⟩:=h;have hG:Qaz G W W':=hF.mono (fun b hb=>h.sub b (.inl hb));refine ⟨G,A,B,C,I,O,P,n,m,k,c,d,e,ci,co,cp,?_,(hF g (h.sub g (.inl h.gg)) h.blk.lt).trans h.blk,h.gg,h.ins.le hG.msk,h.outs.le hG.msk,h.plc.le hG.msk,h.sub,fun b hb=>Nat.lt_of_lt_of_le (h.lt b hb) hz,h.ok,h.c0,h.c1,h.c2⟩;exact h.net.keep hz hG (fun b hb=>hF b (h.sub b (.inr (.inl hb))) (h.net.wa b hb).1) (fun b hb=>hF b (h.sub b (.inr (.inr hb))) (h.net.wt b hb).1)
theorem GrO.below {W W':World}{F:Nat→Prop}{g:Nat}{N:Qaj}(h:GrO W F g N)(hb:Below W.heap.size W W'):GrO W' F g N:=h.keep hb.size (Qaz.below hb)
theorem GrO.lt {W:World}{F:Nat→Prop}{g b:Nat}{N:Qaj}(h:GrO W F g N)(hb:F b):b<W.heap.size:=by
 obtain ⟨G,A,B,C,I,O,P,n,m,k,c,d,e,ci,co,cp,h⟩:=h;exact h.lt b hb
theorem GrO.ok {W:World}{F:Nat→Prop}{g:Nat}{N:Qaj}(h:GrO W F g N):Qas N:=by
 obtain ⟨G,A,B,C,I,O,P,n,m,k,c,d,e,ci,co,cp,h⟩:=h;exact h.ok
end Go.Proofs.YthoagdpakddbdaaGreatDoor
