/- Parts of the proof: Nt7, Nt8, Nt9, Gv, Gr, Ga, GaW, Cl, ClI, Hw, Ks. -/
import Derived.Test.YtdheeddnkdhfeaaGreatDoorH2
import Derived.Lib.SliceRun
namespace Go.Proofs.YtdheeddnkdhfeaaGreatDoor
open Go.RowKit Go.Proofs.Tryz
attribute [local go_sem ↓] Go.wp_at_zero Go.wp_at_succ
def Qij (G:Prop)(e:Ending):Prop:=∃ b:Bool,e=.returned (.bool b)∧(b=true→G)
structure FewOk (N:Qam):Prop where
 v:N.vs.length≤80
 a:N.ar.length≤300
 t:N.ts.length≤80
 c:∀ t∈N.ts,t.costs.length≤300
set_option maxHeartbeats 1000000 in
theorem few_any (A B C:Option Addr)(n m k c d e:Nat)(N:Qam)(w:World)(h:Qbz w A B C n m k N) :
 Calls prog 133 #[.agg #[.slice A n c,.slice B m d,.slice C k e]] w fun e w'=>Qij (FewOk N) e∧Below w.heap.size w w':=by
 have HH:=Zh h;have HLV:=Zh h.1.1;have HLA:=Zh h.2.1.1;have HLT:=Zh h.2.2.1;clear h;by_cases q0:(n:Int) > 80;{(go_enter func133,ntmps133);exact Kbi};by_cases q1:(m:Int) > 300;{(go_enter func133,ntmps133);exact Kbi};by_cases q2:(k:Int) > 80;{(go_enter func133,ntmps133);exact Kbi};go_enter func133,ntmps133
 go_wp2_with fail
 (refine Qaj ?_;intro w1 hw1);have hb1:Below w.heap.size w w1:=by rw [hw1];exact Qah
 have hN1:Blk w1 w.heap.size 26 #[.slice A n c,.slice B m d,.slice C k e]:=by rw [hw1];exact Blk.new _ _ _
 clear hw1;obtain ⟨n0,n1,n2⟩:=hN1.three;have zN:=hN1.lt;have H1:=Zh (HH.out.below hb1);go_loop [3] (fun q=>∃ i:Nat,i≤k∧q=.int .i64 i∧∀ j t,j<i→N.ts[j]?=some t→t.costs.length≤300) (fun q=>k-(intOf q).toNat)
 case atStart=>exact ⟨0,Nat.zero_le _,rfl,fun _ _ h=>absurd h (Nat.not_lt_zero _)⟩
 case round =>
  obtain ⟨i,hi,rfl,hall⟩:=hrel;have HA:=Zh hall;clear hall;by_cases hlt:i<k
  {obtain ⟨b,o,t,rfl,ht,k0,k1,A',n',c',k2,hr,hc1,hc2⟩:=H1.out.2.2.at_ hlt;(have i1:0≤(i:Int):=by omega);(have i2:(i:Int)<k:=by omega);have HT:=Zh ht;have HC:=Zh hr.1;clear ht hr;by_cases q3:(n':Int) > 300;{(go_wp2_with fail);go_ret;exact ⟨⟨false,rfl,fun h=>by cases h⟩,hb1⟩};{(go_wp2_with fail);(go_round);(case rel =>refine ⟨i+1,by omega,by go_num,fun j y hj hy=>?_⟩;by_cases e:j=i;{subst e;rw [HT.out] at hy;cases hy;rw [HC.out];omega};{exact HA.out j y (by omega) hy});case measure=>simp [intOf];omega}};{(obtain rfl:i=k:=by omega);(go_wp2_with fail);go_ret;refine ⟨⟨true,rfl,fun _=>⟨by rw [HLV.out];omega,by rw [HLA.out];omega,by rw [HLT.out];omega,fun t ht=>?_⟩⟩,hb1⟩;obtain ⟨j,hj⟩:=Yr ht;exact HA.out j t (by rw [←HLT.out];exact (Zs hj).1) hj}
theorem Qsv (A:Option Addr)(n m:Nat)(c:Int)(V:World):(Instr.field 66 (.agg #[.slice A n m,.int .i64 c]) 1).run prog V=.ok (.int .i64 c) V:=by kernel_rfl
set_option maxHeartbeats 400000 in
set_option maxRecDepth 20000 in
theorem may3_any (A B C:Option Addr)(n m k c d e:Nat)(N:Qam)(w:World)(h:Qbz w A B C n m k N)(hn:n≤9223372036854775807)(hm:m≤9223372036854775807)(hk:k≤9223372036854775807) :
 Calls prog 84 #[.agg #[.slice A n c,.slice B m d,.slice C k e]] w fun e w'=>Qij (FewOk N∧Qap N) e∧Below w.heap.size w w':=by
 go_enter func84,ntmps84
 go_wp2_with fail
 (refine Qac ?_;intro w1 hw1);have hb1:Below w.heap.size w w1:=by rw [hw1];exact Qah
 have hN1:Blk w1 w.heap.size 26 #[.slice A n c,.slice B m d,.slice C k e]:=by rw [hw1];exact Blk.new _ _ _
 clear hw1;with_reducible refine (few_any A B C n m k c d e N w1 (h.below hb1)).mono ?_
 rintro e' w2 ⟨⟨b,rfl,hf⟩,hb2⟩;have hb2':=Zb hb1 hb2;obtain ⟨n0,n1,n2⟩:=(hN1.below hb2 hN1.lt).three;cases b;{(go_wp2_with fail);go_ret;exact ⟨⟨false,rfl,fun h=>by cases h⟩,Qah⟩};have HF:=Zh (hf rfl);clear hf;go_wp2_with fail
 with_reducible refine (Qkw A B C n m k c d e N w2 (h.below hb2') hn hm hk).mono ?_
 rintro e' w3 ⟨⟨A4,k4,c4,x,rfl,hx⟩,hb3⟩;have hb3':=Zb hb2' hb3;have hfe:=Qsv A4 k4 c4 x w3;clear hn hm hk h n0 n1 n2;rcases hx with ⟨rfl,hG⟩|hx
 {have HG:=Zh hG;clear hG;(go_wp2_with fail);go_ret;exact ⟨⟨true,rfl,fun _=>⟨HF.out,HG.out⟩⟩,hb3'⟩};{(go_wp2_with fail);go_ret;exact ⟨⟨_,rfl,fun h=>absurd (by simpa using h) hx⟩,hb3'⟩}
structure Qwd (N:Qam):Prop where
 v:N.vs.length≤24
 a:N.ar.length≤90
 few:FewOk N
 ok:Qap N
set_option maxHeartbeats 400000 in
set_option maxRecDepth 20000 in
theorem Qzc (A B C:Option Addr)(n m k c d e:Nat)(N:Qam)(w:World)(h:Qbz w A B C n m k N)(hk:k≤9223372036854775807) :
 Calls prog 37 #[.agg #[.slice A n c,.slice B m d,.slice C k e]] w fun e w'=>Qij (Qwd N) e∧Below w.heap.size w w':=by
 have HLV:=Zh h.1.1;have HLA:=Zh h.2.1.1;have HH:=Zh h;have HK:=Zh hk;clear hk h;by_cases q0:(n:Int)≤24;rotate_left;{(go_enter func37,ntmps37);exact Kbi};by_cases q1:(m:Int)≤90;rotate_left;{(go_enter func37,ntmps37);exact Kbi};go_enter func37,ntmps37
 go_wp2_with fail
 (refine Qac ?_;intro w1 hw1);have hb1:Below w.heap.size w w1:=by rw [hw1];exact Qah
 clear hw1;with_reducible refine (may3_any A B C n m k c d e N w1 (HH.out.below hb1) (by omega) (by omega) HK.out).mono ?_
 rintro e' w2 ⟨⟨b,rfl,hf⟩,hb2⟩;have HF:=Zh hf;clear hf;have hb2':=Zb hb1 hb2;go_wp2_with fail
 go_ret;exact ⟨⟨b,rfl,fun h=>⟨by rw [HLV.out];omega,by rw [HLA.out];omega,(HF.out h).1,(HF.out h).2⟩⟩,hb2'⟩
theorem Qin:(Tryz.prog.info? 2).map (fun i=>(i.zero,i.size,i.bytes))=some (some (.int .i64 0),1,8):=by kernel_rfl
set_option maxHeartbeats 1000000 in
theorem Qzj (A:Option Addr)(n c:Nat)(t:Qft)(w:World)(h:RdI w A n t.costs)(hn:n≤1000000) :
 Calls prog 139 #[.agg #[.int .i64 t.ins,.int .i64 t.outs,.slice A n c]] w fun e w'=>∃ A' c',e=.returned (.agg #[.int .i64 t.ins,.int .i64 t.outs,.slice A' n c'])∧Own w' w.heap.size 2 1 A' n c' (Qag t.costs)∧Below w.heap.size w w':=by
 obtain ⟨i,o,cs⟩:=t;have h:RdI w A n cs:=h;simp only;have HR:=Zh h;clear h;go_enter func139,ntmps139
 go_wp2_with fail
 (refine Qaj ?_;intro w1 hw1);have hb1:Below w.heap.size w w1:=by rw [hw1];exact Qah
 have hT1:Blk w1 w.heap.size 122 #[.int .i64 i,.int .i64 o,.slice A n c]:=by rw [hw1];exact Qbi
 have hB1:Blk w1 (w.heap.size+1) 193 #[.int .i64 0,.int .i64 0,.slice none 0 0]:=by rw [hw1];exact Qbi
 have hz1:w1.heap.size=w.heap.size+1+1:=by rw [hw1];simp
 clear hw1;obtain ⟨t0,t1,t2⟩:=hT1.three;have hb0:Below (w.heap.size+1) w1 w1.drew:=(Zr _ _).drew;have HSX:=Zh (show ∀ V,Below (w.heap.size+1) w1 V→V.cell? ⟨w.heap.size,0,none⟩=some (.int .i64 i)∧V.cell? ⟨w.heap.size,1,none⟩=some (.int .i64 o)∧V.cell? ⟨w.heap.size,2,none⟩=some (.slice A n c) from fun V hV=>⟨(hV.cell (Nat.lt_succ_self _)).trans t0,(hV.cell (Nat.lt_succ_self _)).trans t1,(hV.cell (Nat.lt_succ_self _)).trans t2⟩);clear t0 t1 t2;refine wp_region_held_drew (S:=fun V=>Below (w.heap.size+1) w1 V) (by kernel_rfl) hb0 (fun _=>?_);refine tzd 0 3 ?_;refine tzb 5 8 ?_;refine Zk 4 (fun K hK=>?_);go_simp;obtain ⟨W,hW⟩:=Zx ((w1.alloc (.cells #[] 2)).drew);rw [←hW];have hownW:Own W (w.heap.size+1+1) 2 1 (some ⟨w1.heap.size,0,none⟩) 0 0 []:=by{rw [hW];exact Own.drew (Own.lit w1 #[] 0 (by omega) (by omega) rfl)};rw [hz1] at hownW;have hbW:Below (w.heap.size+1) w1 W:=by rw [hW];exact ((Zr _ _).alloc (by omega) _).drew
 have hB2:Blk W (w.heap.size+1) 193 #[.int .i64 0,.int .i64 0,.slice none 0 0]:=by rw [hW];exact Qnd
 have hbwW:Below w.heap.size w W:=hb1.trans (hbW.mono (by omega));have hrW:Rds W 1 A n (Qag cs):=(HR.out.below hbwW).rdsI;have hzW:w.heap.size+1+1≤W.heap.size:=by have:=hbW.size;omega
 clear hW;refine hK.out _ _ hbW (fun _=>?_);clear hK K;refine Zk 7 (fun K hK=>?_);with_reducible refine Qax (some 10) rfl rfl (.tmp 7) (.tmp 9) 36 rfl 2 _ 1 8 Qin underlying36 rfl (by omega) rfl rfl hownW hrW (Qao _) (by omega) (by omega) hzW ?_
 intro A' c' w' hown' hg' _;have hb5:Below (w.heap.size+1) w1 w':=Zo hbW hg' (hownW.mono (by omega)) (by omega);have hb6:Below w.heap.size w w':=Zo hbwW hg' (hownW.mono (by omega)) (by omega);have hB':=hB2.grown hg' (hownW.ne (by omega));rw [Yz,List.nil_append] at hown';have HO:=Zh (hown'.mono (show w.heap.size+2≤w.heap.size+1+1 by omega));refine hK.out _ _ hb5 (fun _=>?_);clear hK K hownW hrW hg' hown';simp only [Act.put,Yi,Yj,Yk,Yz];obtain ⟨c0,c1,c2⟩:=hB'.three;have f0:=hB'.frozen 0;have f1:=hB'.frozen 1;have f2:=hB'.frozen 2;refine tz 8 11 ?_;refine Zk 9 (fun K hK=>?_);go_simp;refine hK.out _ _ (((hb5.setCell (Zn _) _).setCell (Zn _) _).setCell (Zn _) _) (fun _=>?_);clear hK K;refine Zd ?_;go_wp2_with fail
 refine bodyPost_ret (v:=.agg #[.int .i64 i,.int .i64 o,.slice A' n c']) (by simp [results,results139,go_sem,c0,c1,c2]) rfl ?_;refine ⟨A',c',rfl,?_,Qah⟩;have:=ownsRow_setCell_below (ownsRow_setCell_below (ownsRow_setCell_below HO.out (a:=⟨w.heap.size+1,0,none⟩) (by show w.heap.size+1<w.heap.size+2;omega) (.int .i64 i)) (a:=⟨w.heap.size+1,1,none⟩) (by show w.heap.size+1<w.heap.size+2;omega) (.int .i64 o)) (a:=⟨w.heap.size+1,2,none⟩) (by show w.heap.size+1<w.heap.size+2;omega) (.slice A' n c');exact Own.mono this (by omega)
def YwO (W:World)(B:Nat)(A:Option Addr)(n c:Nat)(xs:List Value)(ls:List Qft):Prop :=
 Own W B 193 3 A n c xs∧ls.length=n∧∀ j t,ls[j]?=some t→∃ A2 n2 c2,xs[j*3]?=some (.int .i64 t.ins)∧xs[j*3+1]?=some (.int .i64 t.outs)∧xs[j*3+2]?=some (.slice A2 n2 c2)∧RdI W A2 n2 t.costs∧(∀ g,Qab A2=some g→B≤g∧g<W.heap.size∧Qab A≠some g)∧n2≤c2∧c2≤9223372036854775807
theorem YwO.nil (W:World)(B:Nat):YwO W B none 0 0 [] []:=⟨Own.nil _ _ _ _,rfl,fun j l h=>by simp at h⟩
theorem YwO.rdY {W:World}{B n c:Nat}{A:Option Addr}{xs:List Value}{ls:List Qft}(h:YwO W B A n c xs ls):RdY W A n ls :=
 ⟨h.2.1,fun i t ht=>by
  obtain ⟨A2,n2,c2,h1,h2,h3,h4,_,h5,h6⟩:=h.2.2 i t ht;obtain ⟨b,o,e,k1⟩:=h.1.rds.2 _ _ h1;obtain ⟨b',o',e',k2⟩:=h.1.rds.2 _ _ h2;rw [e] at e';cases e'
  obtain ⟨b',o',e',k3⟩:=h.1.rds.2 _ _ h3;rw [e] at e';cases e'
  exact ⟨b,o,e,k1,by rw [Nat.add_assoc];exact k2,A2,n2,c2,by rw [Nat.add_assoc];exact k3,h4,h5,h6⟩⟩
theorem YwO.push {W w':World}{B n c c' m d:Nat}{A A' R:Option Addr}{xs:List Value}{ls:List Qft}{t:Qft}(h:YwO W B A n c xs ls)
 (hown:Own w' B 193 3 A' (n+1) c' (xs ++[.int .i64 t.ins,.int .i64 t.outs,.slice R m d])) (hg:W.grownBy w' (Qab A)) (hat:Qab A'=Qab A∨Qab A'=some W.heap.size)
 (hr:RdI W R m t.costs) (hne:∀ g,Qab R=some g→B≤g∧g<W.heap.size∧Qab A≠some g) (h4:m≤d) (h5:d≤9223372036854775807):YwO w' B A' (n+1) c' (xs ++[.int .i64 t.ins,.int .i64 t.outs,.slice R m d]) (ls ++[t]):=by
 have hxl:xs.length=ls.length*3:=by rw [h.1.1,h.2.1]
 have new:∀ Y:Option Addr,(∀ g,Qab Y=some g→B≤g∧g<W.heap.size∧Qab A≠some g)→∀ g,Qab Y=some g→B≤g∧g<w'.heap.size∧Qab A'≠some g:=fun Y hY g e=>by{obtain ⟨k0,k1,k2⟩:=hY g e;refine ⟨k0,Yu k1 hg.size,fun e2=>?_⟩;exact Kbn};refine ⟨hown,by simp [h.2.1],fun j t' hl=>?_⟩;rcases Nat.lt_trichotomy j ls.length with hj|hj|hj
 {rw [Yc hj] at hl;obtain ⟨A2,n2,c2,p1,p2,p3,k2,k3,k4,k5⟩:=h.2.2 j t' hl;exact ⟨A2,n2,c2,by rw [Yc (by omega)];exact p1,by rw [Yc (by omega)];exact p2,by rw [Yc (by omega)];exact p3,k2.grownN hg (fun g e=>(k3 g e).2.2),new A2 k3,k4,k5⟩};{subst hj;rw [Yb (Zn _),Yy] at hl;cases hl;refine ⟨R,m,d,?_,?_,?_,hr.grownN hg (fun g e=>(hne g e).2.2),new R hne,h4,h5⟩;{rw [←hxl,Yb (Zn _),Yy];rfl};{rw [←hxl,Yb (by omega),Nat.add_sub_cancel_left];rfl};{rw [←hxl,Yb (by omega),Nat.add_sub_cancel_left];rfl}};{rw [Yd (by simp;omega)] at hl;cases hl}
theorem YwO.below {W W':World}{B n c:Nat}{A:Option Addr}{xs:List Value}{ls:List Qft}(h:YwO W B A n c xs ls)(hb:Below W.heap.size W W'):YwO W' B A n c xs ls :=
 ⟨h.1.below hb,h.2.1,fun i l hl=>by
  obtain ⟨A',n',c',p1,p2,p3,h2,h3,h4,h5⟩:=h.2.2 i l hl;exact ⟨A',n',c',p1,p2,p3,h2.below hb,fun g hg=>⟨(h3 g hg).1,Yu (h3 g hg).2.1 hb.size,(h3 g hg).2.2⟩,h4,h5⟩⟩
theorem YwO.far {W W':World}{B n c:Nat}{A:Option Addr}{xs:List Value}{ls:List Qft}(h:YwO W B A n c xs ls){g:Nat} (hg:W.grownBy W' (some g)) (hB:g<B):YwO W' B A n c xs ls :=
 ⟨h.1.far hg (.inr (fun e=>by have:=(h.1.lt g e).1;omega)),h.2.1,fun i l hl=>by
  obtain ⟨A',n',c',p1,p2,p3,h2,h3,h4,h5⟩:=h.2.2 i l hl;refine ⟨A',n',c',p1,p2,p3,h2.grownN hg (fun k hk e=>?_),fun k hk=>⟨(h3 k hk).1,Yu (h3 k hk).2.1 hg.size,(h3 k hk).2.2⟩,h4,h5⟩
  cases e
  have:=(h3 g hk).1;omega⟩
def Le (w w':World):Prop:=∀ a v,w.cell? a=some v→w'.cell? a=some v
theorem Le.trans {a b c:World}(h:Le a b)(k:Le b c):Le a c:=fun x v hx=>k x v (h x v hx)
theorem Le.below {w w':World}(hb:Below w.heap.size w w'):Le w w':=fun _ _ h=>Zc hb (Zn _) h
section
variable {w w':World} {A:Option Addr} {n:Nat}
theorem RdK.le {k:IntKind}{l:List Int}(h:RdK k w A n l)(hl:Le w w'):RdK k w' A n l :=
 ⟨h.1,fun i x hx=>by obtain ⟨b,o,e,hc⟩:=h.2 i x hx;exact ⟨b,o,e,hl _ _ hc⟩⟩
theorem RdP.le {l:List (Int×Int)} (h:RdP w A n l) (hl:Le w w'):RdP w' A n l :=
 ⟨h.1,fun i x hx=>by obtain ⟨b,o,e,hc,hd⟩:=h.2 i x hx;exact ⟨b,o,e,hl _ _ hc,hl _ _ hd⟩⟩
theorem Rd3.le {l:List Tri}(h:Rd3 w A n l)(hl:Le w w'):Rd3 w' A n l :=
 ⟨h.1,fun i x hx=>by obtain ⟨b,o,e,h1,h2,h3⟩:=h.2 i x hx;exact ⟨b,o,e,hl _ _ h1,hl _ _ h2,hl _ _ h3⟩⟩
theorem RdT.le {ls:List (List Int)} (h:RdT w A n ls) (hl:Le w w'):RdT w' A n ls :=
 ⟨h.1,fun i l hx=>by obtain ⟨b,o,A',n',c',h1,h2,h3,h4⟩:=h.2 i l hx;exact ⟨b,o,A',n',c',h1,hl _ _ h2,h3.le hl,h4⟩⟩
theorem Qol.le {b o:Nat}{t:Qft}(h:Qol w b o t)(hl:Le w w'):Qol w' b o t:=by obtain ⟨h1,h2,A,n,c,h3,h4,h5⟩:=h;exact ⟨hl _ _ h1,hl _ _ h2,A,n,c,hl _ _ h3,h4.le hl,h5⟩
theorem RdY.le {l:List Qft}(h:RdY w A n l)(hl:Le w w'):RdY w' A n l :=
 ⟨h.1,fun i t ht=>by obtain ⟨b,o,e,hc⟩:=h.2 i t ht;exact ⟨b,o,e,hc.le hl⟩⟩
theorem Qbz.le {B C:Option Addr}{m k:Nat}{N:Qam}(h:Qbz w A B C n m k N)(hl:Le w w'):Qbz w' A B C n m k N:=⟨h.1.le hl,h.2.1.le hl,h.2.2.le hl⟩
end
noncomputable def msk (W:World) (G:Nat→Prop):World:=by classical exact { W with heap:=W.heap.mapIdx (fun i o=>if G i then o else .cells #[] 0) }
theorem Qyi {W:World}{G:Nat→Prop}{b:Nat}(h:G b):(msk W G).heap[b]?=W.heap[b]?:=by
 unfold msk;simp only [Array.getElem?_mapIdx]
 cases W.heap[b]? with
 | none=>rfl
 | some o=>simp [h]
theorem Qbb {W:World}{G:Nat→Prop}{a:Addr}{v:Value}:(msk W G).cell? a=some v↔G a.block∧W.cell? a=some v:=by
 by_cases h:G a.block;{unfold World.cell?;rw [Qyi h];simp [h]}
 · unfold World.cell? msk;simp only [Array.getElem?_mapIdx]
   cases W.heap[a.block]? with
   | none=>simp [h]
   | some o=>simp [h]
theorem Qau (W:World)(G:Nat→Prop):Le (msk W G) W:=fun _ _ h=>(Qbb.1 h).2
theorem Qbe {W:World}{G G':Nat→Prop}(h:∀ b,G b→G' b):Le (msk W G) (msk W G'):=fun _ _ hc=>Qbb.2 ⟨h _ (Qbb.1 hc).1,(Qbb.1 hc).2⟩
def Qaz (G:Nat→Prop)(W W':World):Prop:=∀ b,G b→b<W.heap.size→W'.heap[b]?=W.heap[b]?
theorem Qaz.refl (G:Nat→Prop)(W:World):Qaz G W W:=fun _ _ _=>rfl
theorem Qaz.trans {G:Nat→Prop}{a b c:World}(h:Qaz G a b)(k:Qaz G b c)(hz:a.heap.size≤b.heap.size):Qaz G a c:=fun i hi hl=>(k i hi (by omega)).trans (h i hi hl)
theorem Qaz.below {G:Nat→Prop}{W W':World}(h:Below W.heap.size W W'):Qaz G W W':=fun b _ hl=>h.block b hl
theorem Qaz.mono {G G':Nat→Prop}{W W':World}(h:Qaz G W W')(hs:∀ b,G' b→G b):Qaz G' W W':=fun b hb hl=>h b (hs b hb) hl
theorem Qaz.grown {G:Nat→Prop}{W W':World}{r:Option Nat}(h:W.grownBy W' r)(hr:∀ b,G b→r≠some b):Qaz G W W':=fun b hb hl=>h.block b hl (fun e=>hr b hb e.symm)
theorem Qaz.set {G:Nat→Prop}(W:World)(g i:Nat)(v:Value)(h:¬G g):Qaz G W (W.setCell ⟨g,i,none⟩ v):=Qaz.grown (Qad W g i v) (fun b hb e=>h (by cases e;exact hb))
theorem Qaz.msk {G:Nat→Prop}{W W':World}(h:Qaz G W W'):Le (msk W G) (msk W' G):=fun a v hc=>by obtain ⟨h1,h2⟩:=Qbb.1 hc;refine Qbb.2 ⟨h1,?_⟩;rw [World.cell?_of_block (h _ h1 (Qak h2))];exact h2
section
variable {W:World} {G:Nat→Prop} {A:Option Addr} {n:Nat}
theorem RdK.msk {k:IntKind}{l:List Int}(h:RdK k W A n l)(hg:∀ b,Qab A=some b→G b):RdK k (msk W G) A n l :=
 ⟨h.1,fun i x hx=>by obtain ⟨b,o,e,hc⟩:=h.2 i x hx;exact ⟨b,o,e,Qbb.2 ⟨hg b (by rw [e];rfl),hc⟩⟩⟩
theorem RdP.msk {l:List (Int×Int)} (h:RdP W A n l) (hg:∀ b,Qab A=some b→G b):RdP (msk W G) A n l :=
 ⟨h.1,fun i x hx=>by obtain ⟨b,o,e,hc,hd⟩:=h.2 i x hx;exact ⟨b,o,e,Qbb.2 ⟨hg b (by rw [e];rfl),hc⟩,Qbb.2 ⟨hg b (by rw [e];rfl),hd⟩⟩⟩
theorem Rd3.msk {l:List Tri}(h:Rd3 W A n l)(hg:∀ b,Qab A=some b→G b):Rd3 (msk W G) A n l :=
 ⟨h.1,fun i x hx=>by
  obtain ⟨b,o,e,h1,h2,h3⟩:=h.2 i x hx;have hb:=hg b (by rw [e];rfl);exact ⟨b,o,e,Qbb.2 ⟨hb,h1⟩,Qbb.2 ⟨hb,h2⟩,Qbb.2 ⟨hb,h3⟩⟩⟩
end
/-! Rows of Qcf, each of the call's own, as the cells of one block. -/
def IkO (W:World)(B g n:Nat) (ls:List (List Int)):Prop :=
 ls.length=n∧g<B∧∃ cs,Blk W g 61 cs∧cs.size=n∧(∀ (v:Nat) (l:List Int),ls[v]?=some l→∃ A c,cs[v]?=some (.slice A l.length c)∧Own W B 3 1 A l.length c (Qag l)) ∧
  ∀ (v v':Nat) A m c A' m' c',v≠v'→cs[v]?=some (.slice A m c)→cs[v']?=some (.slice A' m' c')→Dj A A'
theorem IkO.start {W:World}{B g n:Nat}(hg:g<B) (h:Blk W g 61 (Qbs (.slice none 0 0) n)):IkO W B g n (List.replicate n []):=by exact Kaq
theorem IkO.grown {W W':World}{B g n:Nat}{r:Option Nat} {ls:List (List Int)} (h:IkO W B g n ls) (hg:W.grownBy W' r) (hr:∀ b,r=some b→b≠g∧b<B):IkO W' B g n ls:=by
 obtain ⟨h1,h2,cs,h3,h4,h5,h6⟩:=h;refine ⟨h1,h2,cs,h3.grown hg (fun e=>(hr g e).1 rfl),h4,fun v l hl=>?_,h6⟩;obtain ⟨A,c,k1,k2⟩:=h5 v l hl;refine ⟨A,c,k1,k2.far hg ?_⟩
 cases hA:Qab A with
 | none=>exact .inl rfl
 | some b =>refine .inr (fun e=>?_);have h8:=(k2.lt b hA).1;have h9:=(hr b e.symm).2;omega
theorem IkO.below {W W':World}{B g n:Nat} {ls:List (List Int)} (h:IkO W B g n ls) (hb:Below W.heap.size W W'):IkO W' B g n ls:=by exact Kbc
theorem IkO.row {W:World}{B g n u:Nat} {ls:List (List Int)} (h:IkO W B g n ls) (hu:u<n):∃ A c l,ls[u]?=some l∧W.cell? ⟨g,u,none⟩=some (.slice A l.length c)∧W.frozen? ⟨g,u,none⟩=false∧Own W B 3 1 A l.length c (Qag l):=by exact Kba
theorem IkO.lt {W:World}{B g n:Nat} {ls:List (List Int)} (h:IkO W B g n ls):g<W.heap.size:=by obtain ⟨_,_,cs,h3,_⟩:=h;exact h3.lt
theorem IkO.push {W w':World}{B g n u c c':Nat}{A A':Option Addr} {ls:List (List Int)} {l:List Int} {k:Int} (h:IkO W B g n ls) (hl:ls[u]?=some l) (hc:W.cell? ⟨g,u,none⟩=some (.slice A l.length c))
 (hown:Own w' B 3 1 A' (l.length+1) c' (Qag l ++Qag [k])) (hg:W.grownBy w' (Qab A)) (hat:Qab A'=Qab A∨Qab A'=some W.heap.size) :
 IkO (w'.setCell ⟨g,u,none⟩ (.slice A' (l.length+1) c')) B g n (ls.set u (l ++[k])):=by
 obtain ⟨h1,h2,cs,h3,h4,h5,h6⟩:=h;have hu:=(Zs hl).1;have hcs:cs[u]?=some (.slice A l.length c):=by rw [←h3.cell];exact hc
 exact Kag
theorem IkO.cellG {W w':World}{B g n u:Nat}{r:Option Nat} {ls:List (List Int)} (h:IkO W B g n ls) (hu:u<n) (hg:W.grownBy w' r) (hr:r≠some g):∃ v,w'.cell? ⟨g,u,none⟩=some v∧w'.frozen? ⟨g,u,none⟩=false:=by exact Kce
theorem IkO.rdM {W:World}{G:Nat→Prop}{B g n:Nat} {ls:List (List Int)} (h:IkO W B g n ls) (hg:G g) (hB:∀ b,B≤b→b<W.heap.size→G b):RdT (msk W G) (some ⟨g,0,none⟩) n ls:=by obtain ⟨h1,h2,cs,h3,h4,h5,h6⟩:=h;refine ⟨h1,fun i l hl=>?_⟩;obtain ⟨A,c,k1,k2⟩:=h5 i l hl;exact ⟨g,0,A,l.length,c,rfl,Qbb.2 ⟨hg,by rw [Yz,h3.cell];exact k1⟩,(k2.rds.rdI).msk (fun b hb=>hB b (k2.lt b hb).1 (k2.lt b hb).2),k2.cap,k2.capMax⟩
/-! The lists of a graph. -/
def idx (f:Tri→Int)(l:List Tri)(v:Int):List Int:=(l.zipIdx.filter (fun p=>f p.1 == v)).map (fun p=>(p.2:Int))
theorem idx_nil (f:Tri→Int)(v:Int):idx f [] v=[]:=rfl
theorem idx_snoc (f:Tri→Int)(l:List Tri)(a:Tri)(v:Int):idx f (l ++[a]) v=idx f l v ++(if f a == v then [(l.length:Int)] else []):=by
 unfold idx;rw [List.zipIdx_append,List.filter_append,List.map_append];congr 1
 cases h:f a == v <;> simp [h]
theorem Qew {f:Tri→Int}{l:List Tri}{a:Tri}{k:Nat} (h:l[k]?=some a) (v:Int):idx f (l.take (k+1)) v=idx f (l.take k) v ++(if f a == v then [(k:Int)] else []):=by have hlt:=(Zs h).1;rw [Yf hlt,(Zs h).2,idx_snoc,Yw,Nat.min_eq_left (by omega)]
theorem Qhu (p:Tri→Bool):∀ (l:List Tri) (i:Nat),(l.zipIdx i).countP (fun q=>p q.1)=l.countP p
 | [],_=>rfl
 | a::l,i=>by rw [List.zipIdx_cons,List.countP_cons,List.countP_cons,Qhu p l (i+1)]
theorem Qxk (f:Tri→Int)(l:List Tri)(v:Int):(idx f l v).length=l.countP (fun a=>f a == v):=by unfold idx;rw [List.length_map,←List.countP_eq_length_filter];exact Qhu (fun a=>f a == v) l 0
theorem Qdz {f:Tri→Int}{l:List Tri}{v x:Int}:x∈idx f l v↔∃ (i:Nat) (a:Tri),x=(i:Int)∧l[i]?=some a∧f a=v:=by unfold idx;simp only [List.mem_map,List.mem_filter,beq_iff_eq];exact Kbo
theorem Qmn (f:Tri→Int)(v:Int):∀ l:List Tri,(idx f l v).Pairwise (·<·):=by intro l;unfold idx;rw [List.pairwise_map];refine List.Pairwise.filter _ ?_;rw [List.pairwise_iff_getElem];intro i j hi hj hij;simp;exact hij
def Qkk (f:Tri→Int)(l:List Tri)(n:Nat):List (List Int):=(List.range n).map (fun v:Nat=>idx f l (v:Int))
theorem Qjo (f:Tri→Int)(l:List Tri)(n:Nat):(Qkk f l n).length=n:=by simp [Qkk]
theorem Qdq {f:Tri→Int}{l:List Tri}{n v:Nat}(h:v<n):(Qkk f l n)[v]?=some (idx f l (v:Int)):=by unfold Qkk;rw [Yt,List.getElem?_range h];rfl
theorem Qjp (f:Tri→Int)(n:Nat):Qkk f [] n=List.replicate n []:=by
 apply List.ext_getElem?;intro i;rcases Nat.lt_or_ge i n with h|h
 {rw [Qdq h,idx_nil];simp [h]};{rw [Yd (by rw [Qjo];exact h),Yd (by simpa using h)]}
theorem Qhw {f:Tri→Int}{l:List Tri}{n v k:Nat}{a:Tri} (ha:l[k]?=some a) (hv:f a=(v:Int)) (h:v<n) :
 (Qkk f (l.take k) n).set v (idx f (l.take k) (v:Int) ++[(k:Int)])=Qkk f (l.take (k+1)) n:=by
 apply List.ext_getElem?;intro i;rcases Nat.lt_or_ge i n with hi|hi
 {rw [Qdq hi,Qew ha];by_cases e:v=i;{subst e;rw [Yg (by rw [Qjo];exact h)];simp [hv]};{rw [Yh e,Qdq hi];(have:(f a == (i:Int))=false:=by rw [hv];simp;omega);simp [this]}};{rw [Yd (by rw [Yq,Qjo];exact hi),Yd (by rw [Qjo];exact hi)]}
def Qha (l:List Tri)(k:Nat)(a:Tri):Int×Int:=(((idx (·.2.1) (l.take k) a.2.1).length:Nat),((idx (·.1) (l.take k) a.1).length:Nat))
def plcs (l:List Tri):List (Int×Int):=l.zipIdx.map (fun p=>Qha l p.2 p.1)
theorem Qtq (l:List Tri):(plcs l).length=l.length:=by simp [plcs]
theorem Qnu {l:List Tri}{k:Nat}{a:Tri} (h:l[k]?=some a):(plcs l)[k]?=some (Qha l k a):=by unfold plcs;rw [Yt,List.getElem?_zipIdx,h];simp
theorem Qeq (f:Tri→Int)(l:List Tri)(k:Nat)(v:Int):(idx f (l.take k) v).length≤k:=by rw [Qxk];exact Qkc f l k v
def TabAt2 (w v:World)(b o:Nat)(t:Qft):Prop:=w.cell? ⟨b,o,none⟩=some (.int .i64 t.ins)∧w.cell? ⟨b,o+1,none⟩=some (.int .i64 t.outs)∧∃ (A:Option Addr) (n c:Nat),w.cell? ⟨b,o+2,none⟩=some (.slice A n c)∧RdI v A n t.costs∧n≤c∧c≤9223372036854775807
def RdY2 (w v:World)(A:Option Addr)(n:Nat)(l:List Qft):Prop:=l.length=n∧∀ i t,l[i]?=some t→∃ b o,A=some ⟨b,o,none⟩∧TabAt2 w v b (o+i*3) t
theorem RdY2.rdY {w v:World}{A:Option Addr}{n:Nat}{l:List Qft}(h:RdY2 w v A n l)(hl:Le v w):RdY w A n l :=
 ⟨h.1,fun i t ht=>by
  obtain ⟨b,o,e,h1,h2,A',n',c',h3,h4,h5⟩:=h.2 i t ht;exact ⟨b,o,e,h1,h2,A',n',c',h3,h4.le hl,h5⟩⟩
theorem RdY2.le {w w' v v':World}{A:Option Addr}{n:Nat}{l:List Qft}(h:RdY2 w v A n l)(hw:∀ b o x,Qab A=some b→w.cell? ⟨b,o,none⟩=some x→w'.cell? ⟨b,o,none⟩=some x)(hl:Le v v'):RdY2 w' v' A n l :=
 ⟨h.1,fun i t ht=>by
  obtain ⟨b,o,e,h1,h2,A',n',c',h3,h4,h5⟩:=h.2 i t ht;have hb:Qab A=some b:=by rw [e];rfl
  exact ⟨b,o,e,hw _ _ _ hb h1,hw _ _ _ hb h2,A',n',c',hw _ _ _ hb h3,h4.le hl,h5⟩⟩
def Warm (W:World)(A:Option Addr):Prop:=∀ b,Qab A=some b→b<W.heap.size∧∀ o,W.frozen? ⟨b,o,none⟩=false
theorem Warm.keep {W W':World}{A:Option Addr}(h:Warm W A)(hz:W.heap.size≤W'.heap.size) (hk:∀ b,Qab A=some b→W'.heap[b]?=W.heap[b]?):Warm W' A:=fun b hb =>
 ⟨Yu (h b hb).1 hz,fun o=>by rw [World.frozen?_of_block (hk b hb)];exact (h b hb).2 o⟩
theorem Own.warm {w:World}{B s n c:Nat}{e:TypeId}{A:Option Addr}{xs:List Value}(h:Own w B e s A n c xs):Warm w A:=fun b hb=>by
 refine ⟨(h.lt b hb).2,fun o=>?_⟩;rcases h.2 with ⟨h',_⟩|⟨g,cap,cur,h1,h2,h3,_⟩
 {cases h';cases hb};{cases h1;cases hb;exact Blk.frozen (t:=e) (cs:=cur) h3 o}
structure Qqo (W:World) (G:Nat→Prop) (A B C:Option Addr) (n m k:Nat) (N:Qam):Prop where
 vs:Rd3 (msk W G) A n N.vs
 ar:Rd3 W B m N.ar
 ts:RdY2 W (msk W G) C k N.ts
 wa:Warm W B
 wt:Warm W C
 ga:∀ b,Qab B=some b→¬G b
 gt:∀ b,Qab C=some b→¬G b
 ac:∀ b,Qab B=some b→Qab C≠some b
theorem Qds {W W':World}{b o:Nat}{x:Value} (hk:W'.heap[b]?=W.heap[b]?) (h:W.cell? ⟨b,o,none⟩=some x):W'.cell? ⟨b,o,none⟩=some x:=by rw [World.cell?_of_block (a:=⟨b,o,none⟩) hk];exact h
theorem Rd3.keep {W W':World}{A:Option Addr}{n:Nat}{l:List Tri}(h:Rd3 W A n l) (hk:∀ b,Qab A=some b→W'.heap[b]?=W.heap[b]?):Rd3 W' A n l :=
 ⟨h.1,fun i x hx=>by
  obtain ⟨b,o,e,h1,h2,h3⟩:=h.2 i x hx;have hb:=hk b (by rw [e];rfl);exact ⟨b,o,e,Qds hb h1,Qds hb h2,Qds hb h3⟩⟩
section
variable {W W':World} {G:Nat→Prop} {A B C:Option Addr} {n m k:Nat} {N:Qam}
theorem Qqo.rd (h:Qqo W G A B C n m k N):Qbz W A B C n m k N:=⟨h.vs.le (Qau W G),h.ar,h.ts.rdY (Qau W G)⟩
theorem Qqo.keep (h:Qqo W G A B C n m k N)(hz:W.heap.size≤W'.heap.size)(hG:Qaz G W W') (hB:∀ b,Qab B=some b→W'.heap[b]?=W.heap[b]?) (hC:∀ b,Qab C=some b→W'.heap[b]?=W.heap[b]?):Qqo W' G A B C n m k N where
 vs:=h.vs.le hG.msk
 ar:=h.ar.keep hB
 ts:=h.ts.le (fun b _ _ hb hc=>Qds (hC b hb) hc) hG.msk
 wa:=h.wa.keep hz hB
 wt:=h.wt.keep hz hC
 ga:=h.ga
 gt:=h.gt
 ac:=h.ac
theorem Qqo.below (h:Qqo W G A B C n m k N)(hb:Below W.heap.size W W'):Qqo W' G A B C n m k N :=
 h.keep hb.size (Qaz.below hb) (fun b e=>hb.block b (h.wa b e).1) (fun b e=>hb.block b (h.wt b e).1)
theorem Qqo.mono {G':Nat→Prop}(h:Qqo W G A B C n m k N)(hs:∀ b,G b→G' b)(ha:∀ b,Qab B=some b→¬G' b)(ht:∀ b,Qab C=some b→¬G' b):Qqo W G' A B C n m k N where
 vs:=h.vs.le (Qbe hs)
 ar:=h.ar
 ts:=h.ts.le (fun _ _ _ _ hc=>hc) (Qbe hs)
 wa:=h.wa
 wt:=h.wt
 ga:=ha
 gt:=ht
 ac:=h.ac
end
structure GrR (W:World) (F G:Nat→Prop) (g:Nat) (A B C I O P:Option Addr) (n m k c d e ci co cp:Nat) (N:Qam):Prop where
 net:Qqo W G A B C n m k N
 blk:Blk W g 189 #[.slice A n c,.slice B m d,.slice C k e,.slice I n ci,.slice O n co,.slice P m cp]
 gg:G g
 ins:RdT (msk W G) I n (Qkk (·.2.1) N.ar n)
 outs:RdT (msk W G) O n (Qkk (·.1) N.ar n)
 plc:RdP (msk W G) P m (plcs N.ar)
 sub:∀ b,(G b∨Qab B=some b∨Qab C=some b)→F b
 lt:∀ b,F b→b<W.heap.size
 ok:Qap N
 c0:n≤c∧c≤9223372036854775807
 c1:m≤d∧d≤9223372036854775807
 c2:k≤e∧e≤9223372036854775807
def GrO (W:World)(F:Nat→Prop)(g:Nat)(N:Qam):Prop:=∃ (G:Nat→Prop) (A B C I O P:Option Addr) (n m k c d e ci co cp:Nat),GrR W F G g A B C I O P n m k c d e ci co cp N
structure GrV (W:World) (g:Nat) (A B C I O P:Option Addr) (n m k c d e ci co cp:Nat) (N:Qam):Prop where
 net:Qbz W A B C n m k N
 n0:W.cell? ⟨g,0,none⟩=some (.slice A n c)
 n1:W.cell? ⟨g,1,none⟩=some (.slice B m d)
 n2:W.cell? ⟨g,2,none⟩=some (.slice C k e)
 n3:W.cell? ⟨g,3,none⟩=some (.slice I n ci)
 n4:W.cell? ⟨g,4,none⟩=some (.slice O n co)
 n5:W.cell? ⟨g,5,none⟩=some (.slice P m cp)
 ins:RdT W I n (Qkk (·.2.1) N.ar n)
 outs:RdT W O n (Qkk (·.1) N.ar n)
 plc:RdP W P m (plcs N.ar)
 ok:Qap N
 c0:n≤c∧c≤9223372036854775807
 c1:m≤d∧d≤9223372036854775807
 c2:k≤e∧e≤9223372036854775807
def Qfh (W:World)(g:Nat)(N:Qam):Prop:=∃ (A B C I O P:Option Addr) (n m k c d e ci co cp:Nat),GrV W g A B C I O P n m k c d e ci co cp N
theorem Qfh.le {W W':World}{g:Nat}{N:Qam}(h:Qfh W g N)(hl:Le W W'):Qfh W' g N:=by obtain ⟨A,B,C,I,O,P,n,m,k,c,d,e,ci,co,cp,h⟩:=h;exact ⟨A,B,C,I,O,P,n,m,k,c,d,e,ci,co,cp,h.net.le hl,hl _ _ h.n0,hl _ _ h.n1,hl _ _ h.n2,hl _ _ h.n3,hl _ _ h.n4,hl _ _ h.n5,h.ins.le hl,h.outs.le hl,h.plc.le hl,h.ok,h.c0,h.c1,h.c2⟩
theorem Qfh.below {W W':World}{g:Nat}{N:Qam}(h:Qfh W g N)(hb:Below W.heap.size W W'):Qfh W' g N:=h.le (Le.below hb)
theorem Blk.six {w:World}{g:Nat}{t:TypeId}{a b c d e f:Value} (h:Blk w g t #[a,b,c,d,e,f]) :
 w.cell? ⟨g,0,none⟩=some a∧w.cell? ⟨g,1,none⟩=some b∧w.cell? ⟨g,2,none⟩=some c∧w.cell? ⟨g,3,none⟩=some d∧w.cell? ⟨g,4,none⟩=some e∧w.cell? ⟨g,5,none⟩=some f :=
 ⟨Zq h,Zq h,Zq h,Zq h,Zq h,Zq h⟩
theorem GrO.rd {W:World}{F:Nat→Prop}{g:Nat}{N:Qam}(h:GrO W F g N):Qfh W g N:=by obtain ⟨G,A,B,C,I,O,P,n,m,k,c,d,e,ci,co,cp,h⟩:=h;obtain ⟨h0,h1,h2,h3,h4,h5⟩:=h.blk.six;exact ⟨A,B,C,I,O,P,n,m,k,c,d,e,ci,co,cp,h.net.rd,h0,h1,h2,h3,h4,h5,h.ins.le (Qau W G),h.outs.le (Qau W G),h.plc.le (Qau W G),h.ok,h.c0,h.c1,h.c2⟩
theorem GrO.keep {W W':World}{F:Nat→Prop}{g:Nat}{N:Qam}(h:GrO W F g N)(hz:W.heap.size≤W'.heap.size)(hF:Qaz F W W'):GrO W' F g N:=by obtain ⟨G,A,B,C,I,O,P,n,m,k,c,d,e,ci,co,cp,h⟩:=h;have hG:Qaz G W W':=hF.mono (fun b hb=>h.sub b (.inl hb));refine ⟨G,A,B,C,I,O,P,n,m,k,c,d,e,ci,co,cp,?_,(hF g (h.sub g (.inl h.gg)) h.blk.lt).trans h.blk,h.gg,h.ins.le hG.msk,h.outs.le hG.msk,h.plc.le hG.msk,h.sub,fun b hb=>Yu (h.lt b hb) hz,h.ok,h.c0,h.c1,h.c2⟩;exact h.net.keep hz hG (fun b hb=>hF b (h.sub b (.inr (.inl hb))) (h.net.wa b hb).1) (fun b hb=>hF b (h.sub b (.inr (.inr hb))) (h.net.wt b hb).1)
theorem GrO.below {W W':World}{F:Nat→Prop}{g:Nat}{N:Qam}(h:GrO W F g N)(hb:Below W.heap.size W W'):GrO W' F g N:=h.keep hb.size (Qaz.below hb)
theorem Qap.arLe {N:Qam}(h:Qap N){m:Nat}(e:N.ar.length=m):m≤16384:=by rw [←e];exact h.la
theorem Qmh (g:Nat)(N:Qam)(w:World)(h:Qfh w g N):Calls prog 141 #[.pointer (some ⟨g,0,none⟩)] w fun e w'=>e=.returned (.int .i64 (N.vs.length:Int))∧w=w':=by
 obtain ⟨A,B,C,I,O,P,n,m,k,c,d,e,ci,co,cp,h⟩:=h;have h0:=h.n0;have HL:=Zh h.net.1.1;clear h;go_enter func141,ntmps141
 go_wp2;go_ret;exact ⟨Qcc (by rw [HL.out]),rfl⟩
theorem Qgk (g:Nat)(N:Qam)(w:World)(h:Qfh w g N):Calls prog 99 #[.pointer (some ⟨g,0,none⟩)] w fun e w'=>e=.returned (.int .i64 (N.ar.length:Int))∧w=w':=by
 obtain ⟨A,B,C,I,O,P,n,m,k,c,d,e,ci,co,cp,h⟩:=h;have h1:=h.n1;have HL:=Zh h.net.2.1.1;clear h;go_enter func99,ntmps99
 go_wp2;go_ret;exact ⟨Qcc (by rw [HL.out]),rfl⟩
theorem Qki (g:Nat)(N:Qam)(a:Int)(w:World)(h:Qfh w g N)(h0:0≤a)(h1:a<N.ar.length):Calls prog 93 #[.pointer (some ⟨g,0,none⟩),.int .i64 a] w fun e w'=>e=.returned (.bool true)∧w=w':=by obtain ⟨A,B,C,I,O,P,n,m,k,c,d,e,ci,co,cp,h⟩:=h;have hn1:=h.n1;have hl:=h.net.2.1.1;rw [hl] at h1;clear hl h;exact Kbw
theorem Qxd (g:Nat)(N:Qam)(a:Int)(w:World)(h:Qfh w g N) (h1:¬(0≤a∧a<N.ar.length)):Calls prog 93 #[.pointer (some ⟨g,0,none⟩),.int .i64 a] w fun e w'=>e=.returned (.bool false)∧w=w':=by obtain ⟨A,B,C,I,O,P,n,m,k,c,d,e,ci,co,cp,h⟩:=h;have hn1:=h.n1;have hl:=h.net.2.1.1;rw [hl] at h1;clear hl h;by_cases h0:0≤a;{(have h2:¬a<m:=by omega);clear h1;exact Kbw};{clear h1;exact Kbw}
theorem Qgs (g a:Nat)(N:Qam)(x:Tri)(w:World)(h:Qfh w g N) (hx:N.ar[a]?=some x):Calls prog 143 #[.pointer (some ⟨g,0,none⟩),.int .i64 a] w fun e w'=>e=.returned (.int .i64 x.1)∧w=w':=by
 have HA:=Zh (show ∀ V,V=w→Calls prog 93 #[.pointer (some ⟨g,0,none⟩),.int .i64 a] V fun e w'=>e=.returned (.bool true)∧V=w' from fun V e=>e▸Qki g N a w h (by omega) (by have:=(Zs hx).1;omega));obtain ⟨A,B,C,I,O,P,n,m,k,c,d,e,ci,co,cp,h⟩:=h;have hn1:=h.n1;have ha:a<m:=by have:=(Zs hx).1;rw [h.net.2.1.1] at this;exact this
 have hm:=h.ok.arLe h.net.2.1.1;obtain ⟨b,o,x',y',z',rfl,hx',cx,cy,cz⟩:=h.net.2.1.at_ ha;rw [hx] at hx';cases hx';have i1:0≤(a:Int):=by omega
 have i2:(a:Int)<m:=by omega
 clear hx h;go_enter func143,ntmps143
 exact Kbq
theorem Qfj (g a:Nat)(N:Qam)(x:Tri)(w:World)(h:Qfh w g N) (hx:N.ar[a]?=some x):Calls prog 144 #[.pointer (some ⟨g,0,none⟩),.int .i64 a] w fun e w'=>e=.returned (.int .i64 x.2.1)∧w=w':=by
 have HA:=Zh (show ∀ V,V=w→Calls prog 93 #[.pointer (some ⟨g,0,none⟩),.int .i64 a] V fun e w'=>e=.returned (.bool true)∧V=w' from fun V e=>e▸Qki g N a w h (by omega) (by have:=(Zs hx).1;omega));obtain ⟨A,B,C,I,O,P,n,m,k,c,d,e,ci,co,cp,h⟩:=h;have hn1:=h.n1;have ha:a<m:=by have:=(Zs hx).1;rw [h.net.2.1.1] at this;exact this
 have hm:=h.ok.arLe h.net.2.1.1;obtain ⟨b,o,x',y',z',rfl,hx',cx,cy,cz⟩:=h.net.2.1.at_ ha;rw [hx] at hx';cases hx';have i1:0≤(a:Int):=by omega
 have i2:(a:Int)<m:=by omega
 clear hx h;go_enter func144,ntmps144
 exact Kbq
theorem Qgt (g a:Nat)(N:Qam)(x:Tri)(w:World)(h:Qfh w g N) (hx:N.ar[a]?=some x):Calls prog 83 #[.pointer (some ⟨g,0,none⟩),.int .i64 a] w fun e w'=>e=.returned (.int .i64 x.2.2)∧w=w':=by
 have HA:=Zh (show ∀ V,V=w→Calls prog 93 #[.pointer (some ⟨g,0,none⟩),.int .i64 a] V fun e w'=>e=.returned (.bool true)∧V=w' from fun V e=>e▸Qki g N a w h (by omega) (by have:=(Zs hx).1;omega));obtain ⟨A,B,C,I,O,P,n,m,k,c,d,e,ci,co,cp,h⟩:=h;have hn1:=h.n1;have ha:a<m:=by have:=(Zs hx).1;rw [h.net.2.1.1] at this;exact this
 have hm:=h.ok.arLe h.net.2.1.1;obtain ⟨b,o,x',y',z',rfl,hx',cx,cy,cz⟩:=h.net.2.1.at_ ha;rw [hx] at hx';cases hx';have i1:0≤(a:Int):=by omega
 have i2:(a:Int)<m:=by omega
 clear hx h;go_enter func83,ntmps83
 exact Kbq
theorem infoClI:(Tryz.prog.info? 3).map (fun i=>(i.zero,i.size,i.bytes))=some (some (.int .i64 0),1,8):=by kernel_rfl
theorem infoClL:(Tryz.prog.info? 2).map (fun i=>(i.zero,i.size,i.bytes))=some (some (.int .i64 0),1,8):=by kernel_rfl
set_option maxHeartbeats 1000000 in
theorem Qum (A:Option Addr)(n c:Nat)(xs:List Value)(w:World)(h:Rds w 1 A n xs)(h1:∀ u∈xs,u.oneCell'=true)(hn:n≤1000000000) :
 Calls prog 147 #[.slice A n c] w fun e w'=>∃ A' c',e=.returned (.slice A' n c')∧Own w' w.heap.size 2 1 A' n c' xs∧Below w.heap.size w w':=by
 have q22:∀ (w:World) (a:Option Addr) (n c n' c':Nat),(binOp .eql 36 (.slice a n c) (.slice none n' c')).run prog w=.ok (.bool a.isNone) w:=fun w a n c n' c'=>Lib.run_eql_slice_nil w _ _ a n c n' c' underlying36
 cases A with
 | none =>
  have hl:xs=[]:=by
   cases hl:xs with
   | nil=>rfl
   | cons p t =>obtain ⟨b,o,e,_⟩:=h.2 0 p (by rw [hl];rfl);cases e
  subst hl;have h0:n=0:=by have:=h.1;simp at this;omega
  subst h0;go_enter func147,ntmps147
  go_wp2;go_ret;exact ⟨none,0,rfl,Own.nil _ _ _ _,Qah⟩
 | some a =>
  have hb1:∀ o,Below w.heap.size w (w.alloc o):=fun o=>(Zr _ _).alloc (Zn _) o
  have hown0:Own (w.alloc (.cells #[] 2)) w.heap.size 2 1 (some ⟨w.heap.size,0,none⟩) 0 0 []:=Own.lit w #[] 0 (Zn _) (by omega) rfl;go_enter func147,ntmps147
  go_wp2_with (at_builtin;with_reducible refine Qal rfl (.tmp 5) (.tmp 6) 36 rfl 2 _ 1 8 infoClL underlying36 rfl (by omega) (B:=w.heap.size) rfl rfl hown0 (h.below (hb1 _)) h1 (by omega) (by omega) (by simp) ?_)
  intro A' c' w' hown hg _;have hb2:Below w.heap.size w w':=Zo (hb1 _) hg hown0 (by simp);try simp only [Yz,List.nil_append] at hown
  have HO:=Zh hown;clear hown hg;go_wp2;go_ret;exact ⟨_,_,rfl,HO.out,hb2⟩
theorem infoClV:(Tryz.prog.info? 243).map (fun i=>(i.zero,i.size,i.bytes))=some (some (.agg #[.int .i64 0,.int .i64 0,.int .i64 0]),3,24):=by kernel_rfl
set_option maxHeartbeats 1000000 in
theorem Qun (A:Option Addr)(n c:Nat)(xs:List Value)(w:World)(h:Rds w 3 A n xs)(h1:∀ u∈xs,u.oneCell'=true)(hn:n≤1000000000) :
 Calls prog 176 #[.slice A n c] w fun e w'=>∃ A' c',e=.returned (.slice A' n c')∧Own w' w.heap.size 243 3 A' n c' xs∧Below w.heap.size w w':=by
 have q22:∀ (w:World) (a:Option Addr) (n c n' c':Nat),(binOp .eql 173 (.slice a n c) (.slice none n' c')).run prog w=.ok (.bool a.isNone) w:=fun w a n c n' c'=>Lib.run_eql_slice_nil w _ _ a n c n' c' underlying173
 cases A with
 | none =>
  have hl:xs=[]:=by
   cases hl:xs with
   | nil=>rfl
   | cons p t =>obtain ⟨b,o,e,_⟩:=h.2 0 p (by rw [hl];rfl);cases e
  subst hl;have h0:n=0:=by have:=h.1;simp at this;omega
  subst h0;go_enter func176,ntmps176
  go_wp2;go_ret;exact ⟨none,0,rfl,Own.nil _ _ _ _,Qah⟩
 | some a =>
  have hb1:∀ o,Below w.heap.size w (w.alloc o):=fun o=>(Zr _ _).alloc (Zn _) o
  have hown0:Own (w.alloc (.cells #[] 243)) w.heap.size 243 3 (some ⟨w.heap.size,0,none⟩) 0 0 []:=Own.lit w #[] 0 (Zn _) (by omega) rfl;go_enter func176,ntmps176
  go_wp2_with (at_builtin;with_reducible refine Qal rfl (.tmp 5) (.tmp 6) 173 rfl 243 _ 3 24 infoClV underlying173 rfl (by omega) (B:=w.heap.size) rfl rfl hown0 (h.below (hb1 _)) h1 (by omega) (by omega) (by simp) ?_)
  intro A' c' w' hown hg _;have hb2:Below w.heap.size w w':=Zo (hb1 _) hg hown0 (by simp);try simp only [Yz,List.nil_append] at hown
  have HO:=Zh hown;clear hown hg;go_wp2;go_ret;exact ⟨_,_,rfl,HO.out,hb2⟩
theorem infoClA:(Tryz.prog.info? 186).map (fun i=>(i.zero,i.size,i.bytes))=some (some (.agg #[.int .i64 0,.int .i64 0,.int .i64 0]),3,24):=by kernel_rfl
set_option maxHeartbeats 1000000 in
theorem Qul (A:Option Addr)(n c:Nat)(xs:List Value)(w:World)(h:Rds w 3 A n xs)(h1:∀ u∈xs,u.oneCell'=true)(hn:n≤1000000000) :
 Calls prog 177 #[.slice A n c] w fun e w'=>∃ A' c',e=.returned (.slice A' n c')∧Own w' w.heap.size 186 3 A' n c' xs∧Below w.heap.size w w':=by
 have q22:∀ (w:World) (a:Option Addr) (n c n' c':Nat),(binOp .eql 174 (.slice a n c) (.slice none n' c')).run prog w=.ok (.bool a.isNone) w:=fun w a n c n' c'=>Lib.run_eql_slice_nil w _ _ a n c n' c' underlying174
 cases A with
 | none =>
  have hl:xs=[]:=by
   cases hl:xs with
   | nil=>rfl
   | cons p t =>obtain ⟨b,o,e,_⟩:=h.2 0 p (by rw [hl];rfl);cases e
  subst hl;have h0:n=0:=by have:=h.1;simp at this;omega
  subst h0;go_enter func177,ntmps177
  go_wp2;go_ret;exact ⟨none,0,rfl,Own.nil _ _ _ _,Qah⟩
 | some a =>
  have hb1:∀ o,Below w.heap.size w (w.alloc o):=fun o=>(Zr _ _).alloc (Zn _) o
  have hown0:Own (w.alloc (.cells #[] 186)) w.heap.size 186 3 (some ⟨w.heap.size,0,none⟩) 0 0 []:=Own.lit w #[] 0 (Zn _) (by omega) rfl;go_enter func177,ntmps177
  go_wp2_with (at_builtin;with_reducible refine Qal rfl (.tmp 5) (.tmp 6) 174 rfl 186 _ 3 24 infoClA underlying174 rfl (by omega) (B:=w.heap.size) rfl rfl hown0 (h.below (hb1 _)) h1 (by omega) (by omega) (by simp) ?_)
  intro A' c' w' hown hg _;have hb2:Below w.heap.size w w':=Zo (hb1 _) hg hown0 (by simp);try simp only [Yz,List.nil_append] at hown
  have HO:=Zh hown;clear hown hg;go_wp2;go_ret;exact ⟨_,_,rfl,HO.out,hb2⟩
set_option maxHeartbeats 1000000 in
theorem Qik (A:Option Addr)(n c:Nat)(xs:List Value)(w:World)(h:Rds w 1 A n xs)(h1:∀ u∈xs,u.oneCell'=true)(hn:n≤1000000000) :
 Calls prog 76 #[.slice A n c] w fun e w'=>∃ A' c',e=.returned (.slice A' n c')∧Own w' w.heap.size 3 1 A' n c' xs∧Below w.heap.size w w':=by
 have q22:∀ (w:World) (a:Option Addr) (n c n' c':Nat),(binOp .eql 61 (.slice a n c) (.slice none n' c')).run prog w=.ok (.bool a.isNone) w:=fun w a n c n' c'=>Lib.run_eql_slice_nil w _ _ a n c n' c' underlying61
 cases A with
 | none =>
  have hl:xs=[]:=by
   cases hl:xs with
   | nil=>rfl
   | cons p t =>obtain ⟨b,o,e,_⟩:=h.2 0 p (by rw [hl];rfl);cases e
  subst hl;have h0:n=0:=by have:=h.1;simp at this;omega
  subst h0;go_enter func76,ntmps76
  go_wp2;go_ret;exact ⟨none,0,rfl,Own.nil _ _ _ _,Qah⟩
 | some a =>
  have hb1:∀ o,Below w.heap.size w (w.alloc o):=fun o=>(Zr _ _).alloc (Zn _) o
  have hown0:Own (w.alloc (.cells #[] 3)) w.heap.size 3 1 (some ⟨w.heap.size,0,none⟩) 0 0 []:=Own.lit w #[] 0 (Zn _) (by omega) rfl;go_enter func76,ntmps76
  go_wp2_with (at_builtin;with_reducible refine Qal rfl (.tmp 5) (.tmp 6) 61 rfl 3 _ 1 8 infoClI underlying61 rfl (by omega) (B:=w.heap.size) rfl rfl hown0 (h.below (hb1 _)) h1 (by omega) (by omega) (by simp) ?_)
  intro A' c' w' hown hg _;have hb2:Below w.heap.size w w':=Zo (hb1 _) hg hown0 (by simp);try simp only [Yz,List.nil_append] at hown
  have HO:=Zh hown;clear hown hg;go_wp2;go_ret;exact ⟨_,_,rfl,HO.out,hb2⟩
structure Aft (G:Nat→Prop) (W W':World):Prop where
 kept:Qaz G W W'
 size:W.heap.size≤W'.heap.size
 bel:∀ B,(∀ b,b<B→G b)→Below B W W'
theorem Aft.refl (G:Nat→Prop)(W:World):Aft G W W:=⟨Qaz.refl _ _,Zn _,fun _ _=>Zr _ _⟩
theorem Aft.trans {G:Nat→Prop}{a b c:World}(h:Aft G a b)(k:Aft G b c):Aft G a c:=⟨h.kept.trans k.kept h.size,Yx h.size k.size,fun B hB=>(h.bel B hB).trans (k.bel B hB)⟩
theorem Aft.drew {G:Nat→Prop}{a b:World}(h:Aft G a b):Aft G a b.drew:=⟨h.kept,h.size,fun B hB=>(h.bel B hB).drew⟩
theorem Aft.set {G:Nat→Prop}{a b:World}{g i:Nat}(h:Aft G a b)(hg:¬G g)(v:Value):Aft G a (b.setCell ⟨g,i,none⟩ v) :=
 ⟨h.kept.trans (Qaz.set _ _ _ _ hg) h.size,by simpa [World.setCell] using h.size,fun B hB=>(h.bel B hB).setCell (Nat.le_of_not_lt fun hl=>hg (hB g hl)) v⟩
theorem Aft.below {G:Nat→Prop}{W W':World}(h:Below W.heap.size W W')(hG:∀ b,G b→b<W.heap.size):Aft G W W' :=
 ⟨Qaz.below h,h.size,fun B hB=>by
  refine h.mono ?_
  rcases Nat.lt_or_ge W.heap.size B with hl|hl
  · exact absurd (hG _ (hB _ hl)) (by omega)
  · exact hl⟩
def nis (l:List Nat):List Int:=l.map (fun (k:Nat)=>(k:Int))
theorem Qdf (l:List Nat):(nis l).length=l.length:=by simp [nis]
theorem Qdo {l:List Nat}{i k:Nat} (h:l[i]?=some k):(nis l)[i]?=some (k:Int):=by simp [nis,h]
theorem Qym (l:List Nat)(i k:Nat):(nis l).set i (k:Int)=nis (l.set i k):=by simp [nis,List.map_set]
theorem Qfy (l m:List Nat):nis (l ++m)=nis l ++nis m:=by simp [nis]
theorem Qim {l:List Int}{i:Nat}{x:Int} (h:l[i]?=some x):(Qag l)[i]?=some (.int .i64 x):=by simp [Qag,h]
theorem Qux (l:List Int)(k:Nat)(x:Int):(Qag l).set k (.int .i64 x)=Qag (l.set k x):=by simp [Qag,List.map_set]
theorem Own.putAt {W:World}{B n c k s g o:Nat}{e:TypeId}{xs:List Value} (h:Own W B e s (some ⟨g,o,none⟩) n c xs) (v:Value):Own (W.setCell ⟨g,o+k,none⟩ v) B e s (some ⟨g,o,none⟩) n c (xs.set k v):=by
 refine ⟨by rw [Yq];exact h.1,?_⟩;rcases h.2 with ⟨h',_⟩|⟨g',cap',cur,h1,h2,h3,h4,h5,h6,h7⟩
 {cases h'};{cases h1;refine Or.inr ⟨g,c,cur.setIfInBounds (0+k) v,rfl,h2,(show Blk W g e cur from h3).set_ (0+k) _,h4,h5,by simpa using h6,?_⟩;rw [Array.toList_setIfInBounds,List.take_set,h7,Yz]}
theorem Own.front_ {w:World}{B s n n' c:Nat}{e:TypeId}{A:Option Addr}{xs xs':List Value}(h:Own w B e s A n c xs)(hn:n'≤n) (hx:xs.take (n'*s)=xs'):Own w B e s A n' c xs':=by
 subst hx;refine ⟨by rw [Yw,h.1,Nat.min_eq_left (Nat.mul_le_mul_right s hn)],?_⟩;rcases h.2 with ⟨h',h0⟩|⟨g',cap',cur,h1,h2,h3,h4,h5,h6,h7⟩
 {cases h';(obtain rfl:n'=0:=by omega);exact .inl ⟨rfl,rfl⟩};{cases h1;refine .inr ⟨g',c,cur,rfl,h2,h3,by omega,h5,h6,?_⟩;rw [←h7,List.take_take,Nat.min_eq_left (Nat.mul_le_mul_right s hn)]}
structure Qbk (W:World) (G:Nat→Prop) (g:Nat) (A:Option Addr) (gc gs n m c:Nat) (R:List Nat) (C:List Int) (S:List Nat):Prop where
 blk:Blk W g 258 #[.slice A m c,.slice (some ⟨gc,0,none⟩) n n,.slice (some ⟨gs,0,none⟩) n n]
 row:Own W 0 3 1 A m c (Qag (nis R))
 cs:Blk W gc 2 (Qcf C)
 ss:Blk W gs 3 (Qcf (nis S))
 dA:∀ b,Qab A=some b→b≠g∧b≠gc∧b≠gs∧¬G b
 dg:g≠gc∧g≠gs∧gc≠gs
 dG:¬G g∧¬G gc∧¬G gs
 lt:∀ b,G b→b<W.heap.size
 lr:R.length=m
 lc:C.length=n
 ls:S.length=n
 n0:n≤16384
section
variable {W W':World} {G:Nat→Prop} {g gc gs n m c:Nat} {A:Option Addr} {R:List Nat} {C:List Int} {S:List Nat}
theorem Qbk.drew (h:Qbk W G g A gc gs n m c R C S):Qbk W.drew G g A gc gs n m c R C S:=⟨h.blk,h.row,h.cs,h.ss,h.dA,h.dg,h.dG,h.lt,h.lr,h.lc,h.ls,h.n0⟩
theorem Qbk.setR {gr i k:Nat} (h:Qbk W G g (some ⟨gr,0,none⟩) gc gs n m c R C S):Qbk (W.setCell ⟨gr,i,none⟩ (.int .i64 (k:Int))) G g (some ⟨gr,0,none⟩) gc gs n m c (R.set i k) C S:=by obtain ⟨d1,d2,d3,d4⟩:=h.dA gr rfl;have h1:=h.row.putAt (k:=i) (.int .i64 (k:Int));rw [Yz,Qux,Qym] at h1;exact ⟨h.blk.far_ (fun e=>d1 e.symm) _,h1,h.cs.far_ (fun e=>d2 e.symm) _,h.ss.far_ (fun e=>d3 e.symm) _,h.dA,h.dg,h.dG,fun b hb=>by simpa [World.setCell] using h.lt b hb,by rw [Yq];exact h.lr,h.lc,h.ls,h.n0⟩
theorem Qbk.setC {i:Nat}{x:Int}(h:Qbk W G g A gc gs n m c R C S):Qbk (W.setCell ⟨gc,i,none⟩ (.int .i64 x)) G g A gc gs n m c R (C.set i x) S :=
 ⟨h.blk.far_ h.dg.1 _,h.row.far (Qad _ _ _ _) (.inr fun e=>(h.dA gc e).2.1 rfl),h.cs.setI rfl,h.ss.far_ (fun e=>h.dg.2.2 e.symm) _,h.dA,h.dg,h.dG,fun b hb=>by simpa [World.setCell] using h.lt b hb,h.lr,by rw [Yq];exact h.lc,h.ls,h.n0⟩
theorem Qbk.setS {i k:Nat}(h:Qbk W G g A gc gs n m c R C S):Qbk (W.setCell ⟨gs,i,none⟩ (.int .i64 (k:Int))) G g A gc gs n m c R C (S.set i k) :=
 ⟨h.blk.far_ h.dg.2.1 _,h.row.far (Qad _ _ _ _) (.inr fun e=>(h.dA gs e).2.2.1 rfl),h.cs.far_ h.dg.2.2 _,h.ss.setI (Qym _ _ _),h.dA,h.dg,h.dG,fun b hb=>by simpa [World.setCell] using h.lt b hb,h.lr,h.lc,by rw [Yq];exact h.ls,h.n0⟩
theorem Qbk.keep (h:Qbk W G g A gc gs n m c R C S)(hz:Below W.heap.size W W'):Qbk W' G g A gc gs n m c R C S :=
 ⟨h.blk.below hz h.blk.lt,h.row.below hz,h.cs.below hz h.cs.lt,h.ss.below hz h.ss.lt,h.dA,h.dg,h.dG,fun b hb=>Yu (h.lt b hb) hz.size,h.lr,h.lc,h.ls,h.n0⟩
theorem Qbk.more {G':Nat→Prop}(h:Qbk W G g A gc gs n m c R C S)(hb:Below W.heap.size W W') (hG:∀ b,G' b→b<W'.heap.size∧(G b∨W.heap.size≤b)):Qbk W' G' g A gc gs n m c R C S:=by
 have ho:∀ b,b<W.heap.size→¬G b→¬G' b:=fun b h1 h2 h3=>(hG b h3).2.elim h2 (fun h4=>by omega)
 have k:=h.keep hb;exact ⟨k.blk,k.row,k.cs,k.ss,fun b hb'=>⟨(h.dA b hb').1,(h.dA b hb').2.1,(h.dA b hb').2.2.1,ho b (h.row.lt b hb').2 (h.dA b hb').2.2.2⟩,h.dg,⟨ho _ h.blk.lt h.dG.1,ho _ h.cs.lt h.dG.2.1,ho _ h.ss.lt h.dG.2.2⟩,fun b hb'=>(hG b hb').1,h.lr,h.lc,h.ls,h.n0⟩
theorem Qbk.f0 (h:Qbk W G g A gc gs n m c R C S):W.cell? ⟨g,0,none⟩=some (.slice A m c):=Zq h.blk
theorem Qbk.f1 (h:Qbk W G g A gc gs n m c R C S):W.cell? ⟨g,1,none⟩=some (.slice (some ⟨gc,0,none⟩) n n):=Zq h.blk
theorem Qbk.f2 (h:Qbk W G g A gc gs n m c R C S):W.cell? ⟨g,2,none⟩=some (.slice (some ⟨gs,0,none⟩) n n):=Zq h.blk
theorem Qbk.rowAt {gr i k:Nat} (h:Qbk W G g (some ⟨gr,0,none⟩) gc gs n m c R C S) (hk:R[i]?=some k):W.cell? ⟨gr,i,none⟩=some (.int .i64 (k:Int)):=by obtain ⟨b,o,e,hc⟩:=h.row.rds.2 i _ (Qim (Qdo hk));cases e;rwa [Yz] at hc
theorem Qbk.costAt {i:Nat}{x:Int}(h:Qbk W G g A gc gs n m c R C S) (hk:C[i]?=some x):W.cell? ⟨gc,i,none⟩=some (.int .i64 x):=h.cs.cellI hk
theorem Qbk.seatAt {i k:Nat}(h:Qbk W G g A gc gs n m c R C S) (hk:S[i]?=some k):W.cell? ⟨gs,i,none⟩=some (.int .i64 (k:Int)):=h.ss.cellI (Qdo hk)
theorem Qbk.rowBlk (h:Qbk W G g A gc gs n m c R C S)(hm:0<m):∃ gr,A=some ⟨gr,0,none⟩∧W.frozen? ⟨gr,0,none⟩=false:=by obtain ⟨gr,cur,e,_,hb,_⟩:=h.row.block hm;exact ⟨gr,e,hb.frozen 0⟩
theorem Qbk.fzR {gr i:Nat} (h:Qbk W G g (some ⟨gr,0,none⟩) gc gs n m c R C S):W.frozen? ⟨gr,i,none⟩=false:=(h.row.warm gr rfl).2 i
theorem Qbk.cap (h:Qbk W G g A gc gs n m c R C S):m≤c∧c≤9223372036854775807:=⟨h.row.cap,h.row.capMax⟩
end
section
variable {P:Program} {ops:Array Oper} {Q:Exit→Act→World→Prop} {md:Region.Mode} {S:World→Prop} {k:Nat}
def Qdl (P:Program)(md:Region.Mode)(ops:Array Oper)(Q:Exit→Act→World→Prop)(S:World→Prop)(k:Nat):Nat→Array Bool→Act→World→Prop
 | 0,listed,a,w=>Region.ready md ops listed=[]∧Q .normal a w
 | fuel+1,listed,a,w =>
  (Region.ready md ops listed=[]→Q .normal a w) ∧
  ∀ i∈Region.ready md ops listed,wpOp P ops Q i (fun a' w'=>if i=k then wpAny P md ops Q fuel (listed.setIfInBounds i true) a' w' else S w'∧Qdl P md ops Q S k fuel (listed.setIfInBounds i true) a' w') a w
theorem Qmx:∀ (fuel:Nat)(listed:Array Bool)(a:Act)(w:World),Qdl P md ops Q S k fuel listed a w→wpAny P md ops Q fuel listed a w
 | 0,_,_,_,h=>h
 | fuel+1,_,_,_,h=>⟨h.1,fun i hi=>wpOp_mono (fun a' w' h'=>by
  by_cases e:i=k
  · rw [if_pos e] at h';exact h'
  · rw [if_neg e] at h';exact Qmx fuel _ a' w' h'.2) (h.2 i hi)⟩
def Qge (md:Region.Mode)(ops:Array Oper)(k i:Nat):Bool:=(ops[k]?).elim false fun o=>o.after.any fun e=>Region.binds md e && e.on == i
theorem Qli {i:Nat}{listed:Array Bool}(h:Qge md ops k i=true)(hi:i∈Region.ready md ops listed):k ∉ Region.ready md ops listed:=by
 intro hk;obtain ⟨_,o,ho,hall⟩:=mem_ready.1 hk;unfold Qge at h;rw [ho] at h;simp only [Option.elim,Array.any_eq_true',Bool.and_eq_true,beq_iff_eq] at h;obtain ⟨e,he,hb,hon⟩:=h;have h1:=hall e he hb;have h0:=(mem_ready.1 hi).1;rw [hon] at h1;simp only [Array.getD_eq_getD_getElem?] at h0 h1
 cases hx:listed[i]? with
 | none=>rw [hx] at h0;cases h0
 | some b=>rw [hx] at h0 h1;simp at h0 h1;rw [h0] at h1;cases h1
theorem Qqj {i:Nat}{oi:Oper}{v:Value} (hi:ops[i]?=some oi) (hsel:∀ (j:Nat) (o:Oper) cs b,ops[j]?=some o→o.op≠.select cs b)
 (hQ:∀ c a w,Q (.panic c) (a.put oi.dst v) w→Q (.panic c) a w) (hwk:Qge md ops k i=true) (hik:i≠k) :
 ∀ (fuel:Nat) (listed:Array Bool) (a:Act) (w:World),
  (∀ j oj,ops[j]?=some oj→j≠i→listed.getD j true=false→(∀ e∈oj.after,Region.binds md e=true→e.on≠i)→oi.apart ops oj=true) →
  i∈Region.ready md ops listed→YieldsIf P ops S oi v a→S w →
  Qdl P md ops Q S k fuel (listed.setIfInBounds i true) (a.put oi.dst v) w→Qdl P md ops Q S k (fuel+1) listed a w:=by
 intro fuel
 induction fuel with
 | zero =>intro listed a w _ hr hy hS H;refine ⟨fun h=>(by rw [h] at hr;cases hr),fun j hj=>?_⟩;by_cases hji:j=i;{subst hji;refine hy.wpOp hi hS ?_;rw [if_neg hik];exact ⟨hS,H⟩};{have:=ready_mono hj hji;rw [H.1] at this;cases this}
 | succ fuel ih =>
  intro listed a w hfree hr hy hS H;refine ⟨fun h=>(by rw [h] at hr;cases hr),fun j hj=>?_⟩;by_cases hji:j=i;{subst hji;refine hy.wpOp hi hS ?_;rw [if_neg hik];exact ⟨hS,H⟩}
  · (have hjk:j≠k:=fun e=>Qli hwk hr (e▸hj));have h1:=H.2 j (ready_mono hj hji);obtain ⟨hjun,oj,hoj,hall⟩:=mem_ready.1 hj;have hnot:∀ e∈oj.after,Region.binds md e=true→e.on≠i:=fun e he hb heq=>by{exact Kcd};have h2:=wpOp_putIf hoj (hfree j oj hoj hji hjun hnot) (fun cs b=>hsel i oi cs b hi) (fun cs b=>hsel j oj cs b hoj) hQ hy h1
    have hfree':∀ q oq,ops[q]?=some oq→q≠i→(listed.setIfInBounds j true).getD q true=false →
     (∀ e∈oq.after,Region.binds md e=true→e.on≠i)→oi.apart ops oq=true:=fun q oq hq hqi hun hno=>by
     refine hfree q oq hq hqi ?_ hno
     by_cases hjq:j=q
     · subst hjq;exact hjun
     · rw [getD_set_ne true hjq] at hun;exact hun
    refine wpOp_mono (fun a' w' h3=>?_) h2;rw [if_neg hjk] at h3 ⊢;refine ⟨h3.2.1,ih (listed.setIfInBounds j true) a' w' hfree' (ready_mono hr (Ne.symm hji)) h3.1 h3.2.1 ?_⟩;rw [Array.setIfInBounds_comm _ _ hji];exact h3.2.2
theorem takeK_ {i:Nat}{oi:Oper}{d:Option Tmp}{v:Value}{fuel:Nat}{listed:Array Bool}{a:Act}{w:World} (hi:ops[i]?=some oi) (hd:oi.dst=d)
 (hwk:Qge md ops k i=true) (hik:(i == k)=false) (hs:Region.noSelect ops=true) (hf:Region.free md ops listed i=true) (hr:(Region.ready md ops listed).contains i=true)
 (hQ:∀ c a w,Q (.panic c) (a.put oi.dst v) w→Q (.panic c) a w) (hw:Region.wanted oi (yielded ops a.tmps)=true) (hy:∀ w,S w→(execOp a.eval oi).run P w=.ok (.value v) w) (hS:S w)
 (h:Qdl P md ops Q S k fuel (listed.setIfInBounds i true) (a.put d v) w):Qdl P md ops Q S k (fuel+1) listed a w:=by subst hd;exact Qqj hi (Region.noSelect_spec hs) hQ hwk (by simpa using hik) fuel listed a w (Region.free_spec hi hf) (by simpa using hr) (Or.inl ⟨hw,hy⟩) hS h
theorem Qsk {i:Nat}{oi:Oper}{v:Value} (hi:ops[i]?=some oi) (hsel:∀ (j:Nat) (o:Oper) cs b,ops[j]?=some o→o.op≠.select cs b)
 (hQ:∀ c a w,Q (.panic c) (a.put oi.dst v) w→Q (.panic c) a w) (hik:i≠k) :
 ∀ (fuel:Nat) (listed:Array Bool) (a:Act) (w:World),
  (∀ j oj,ops[j]?=some oj→j≠i→listed.getD j true=false→(∀ e∈oj.after,Region.binds md e=true→e.on≠i)→oi.apart ops oj=true) →
  i∈Region.ready md ops listed→YieldsIf P ops (fun _=>True) oi v a→S w →
  Qdl P md ops Q S k fuel (listed.setIfInBounds i true) (a.put oi.dst v) w→Qdl P md ops Q S k (fuel+1) listed a w:=by
 intro fuel
 induction fuel with
 | zero =>intro listed a w _ hr hy hS H;refine ⟨fun h=>(by rw [h] at hr;cases hr),fun j hj=>?_⟩;by_cases hji:j=i;{subst hji;refine hy.wpOp hi trivial ?_;rw [if_neg hik];exact ⟨hS,H⟩};{have:=ready_mono hj hji;rw [H.1] at this;cases this}
 | succ fuel ih =>
  intro listed a w hfree hr hy hS H;refine ⟨fun h=>(by rw [h] at hr;cases hr),fun j hj=>?_⟩;by_cases hji:j=i;{subst hji;refine hy.wpOp hi trivial ?_;rw [if_neg hik];exact ⟨hS,H⟩}
  · have h1:=H.2 j (ready_mono hj hji);obtain ⟨hjun,oj,hoj,hall⟩:=mem_ready.1 hj;have hnot:∀ e∈oj.after,Region.binds md e=true→e.on≠i:=fun e he hb heq=>by{exact Kcd};have h2:=wpOp_putIf hoj (hfree j oj hoj hji hjun hnot) (fun cs b=>hsel i oi cs b hi) (fun cs b=>hsel j oj cs b hoj) hQ hy h1
    have hfree':∀ q oq,ops[q]?=some oq→q≠i→(listed.setIfInBounds j true).getD q true=false →
     (∀ e∈oq.after,Region.binds md e=true→e.on≠i)→oi.apart ops oq=true:=fun q oq hq hqi hun hno=>by
     refine hfree q oq hq hqi ?_ hno
     by_cases hjq:j=q
     · subst hjq;exact hjun
     · rw [getD_set_ne true hjq] at hun;exact hun
    refine wpOp_mono (fun a' w' h3=>?_) h2;by_cases hjk:j=k;{rw [if_pos hjk] at h3 ⊢;refine wpAny_first hi hsel hQ fuel (listed.setIfInBounds j true) a' w' hfree' (ready_mono hr (Ne.symm hji)) (h3.1.imp (fun ⟨ha,hb⟩=>⟨ha,fun w=>hb w trivial⟩) id) ?_;rw [Array.setIfInBounds_comm _ _ hji];exact h3.2};{rw [if_neg hjk] at h3 ⊢;refine ⟨h3.2.1,ih (listed.setIfInBounds j true) a' w' hfree' (ready_mono hr (Ne.symm hji)) h3.1 h3.2.1 ?_⟩;rw [Array.setIfInBounds_comm _ _ hji];exact h3.2.2}
theorem takeF_ {i:Nat}{oi:Oper}{d:Option Tmp}{v:Value}{fuel:Nat}{listed:Array Bool}{a:Act}{w:World} (hi:ops[i]?=some oi) (hd:oi.dst=d)
 (hik:(i == k)=false) (hs:Region.noSelect ops=true) (hf:Region.free md ops listed i=true) (hr:(Region.ready md ops listed).contains i=true)
 (hQ:∀ c a w,Q (.panic c) (a.put oi.dst v) w→Q (.panic c) a w) (hw:Region.wanted oi (yielded ops a.tmps)=true) (hy:∀ w,True→(execOp a.eval oi).run P w=.ok (.value v) w) (hS:S w)
 (h:Qdl P md ops Q S k fuel (listed.setIfInBounds i true) (a.put d v) w):Qdl P md ops Q S k (fuel+1) listed a w:=by subst hd;exact Qsk hi (Region.noSelect_spec hs) hQ (by simpa using hik) fuel listed a w (Region.free_spec hi hf) (by simpa using hr) (Or.inl ⟨hw,hy⟩) hS h
theorem tkK (i d:Nat){oi:Oper}{fuel:Nat}{listed:Array Bool}{a:Act}{w:World} (hi:ops[i]?=some oi:=by rfl) (hd:oi.dst=some d:=by rfl) (hwk:Qge md ops k i=true:=by kernel_rfl) (hik:(i == k)=false:=by rfl) (hs:Region.noSelect ops=true:=by kernel_rfl)
 (hf:Region.free md ops listed i=true:=by kernel_rfl) (hr:(Region.ready md ops listed).contains i=true:=by kernel_rfl) (hQ:∀ c a w v,Q (.panic c) (a.put oi.dst v) w→Q (.panic c) a w:=by exact fun _ _ _ _ h=>h) (hw:Region.wanted oi (yielded ops a.tmps)=true:=by rfl) (hS:S w:=by first|rfl|trivial|assumption)
 (h:∃ v,(∀ w,S w→(execOp a.eval oi).run P w=.ok (.value v) w)∧Qdl P md ops Q S k fuel (listed.setIfInBounds i true) (a.put (some d) v) w):Qdl P md ops Q S k (fuel+1) listed a w:=by obtain ⟨v,h1,h2⟩:=h;exact takeK_ (i:=i) (d:=some d) (v:=v) hi hd hwk hik hs hf hr (fun c a w=>hQ c a w v) hw h1 hS h2
theorem tkF (i d:Nat){oi:Oper}{fuel:Nat}{listed:Array Bool}{a:Act}{w:World} (hi:ops[i]?=some oi:=by rfl) (hd:oi.dst=some d:=by rfl) (hik:(i == k)=false:=by rfl) (hs:Region.noSelect ops=true:=by kernel_rfl)
 (hf:Region.free md ops listed i=true:=by kernel_rfl) (hr:(Region.ready md ops listed).contains i=true:=by kernel_rfl) (hQ:∀ c a w v,Q (.panic c) (a.put oi.dst v) w→Q (.panic c) a w:=by exact fun _ _ _ _ h=>h) (hw:Region.wanted oi (yielded ops a.tmps)=true:=by rfl) (hS:S w:=by first|rfl|trivial|assumption)
 (h:∃ v,(∀ w,True→(execOp a.eval oi).run P w=.ok (.value v) w)∧Qdl P md ops Q S k fuel (listed.setIfInBounds i true) (a.put (some d) v) w):Qdl P md ops Q S k (fuel+1) listed a w:=by obtain ⟨v,h1,h2⟩:=h;exact takeF_ (i:=i) (d:=some d) (v:=v) hi hd hik hs hf hr (fun c a w=>hQ c a w v) hw h1 hS h2
theorem Qbt {o:Oper}{fuel:Nat}{listed:Array Bool}{a:Act}{w:World} (hr:Region.ready md ops listed=[k]) (ho:ops[k]?=some o)
 (h:∀ K':Act→World→Prop,Shut (∀ a w,wpAny P md ops Q fuel (listed.setIfInBounds k true) a w→K' a w)→if Region.wanted o (yielded ops a.tmps)=true then Oper.wp P o a w K' Q else K' (a.put o.dst undef) w) :
 Qdl P md ops Q S k (fuel+1) listed a w:=by
 refine ⟨fun h0=>(by rw [hr] at h0;cases h0),fun j hj=>?_⟩;rw [hr] at hj;obtain rfl:j=k:=by simpa using hj
 refine wpOp_step ho (fun K' hK=>h K' (fun a w hW=>hK a w ?_));rw [if_pos rfl];exact hW
theorem Qbn {i:Nat}{o:Oper}{fuel:Nat}{listed:Array Bool}{a:Act}{w:World} (hr:Region.ready md ops listed=[i]) (hik:(i == k)=false) (ho:ops[i]?=some o)
 (h:∀ K':Act→World→Prop,Shut (∀ a w,S w→(S w→Qdl P md ops Q S k fuel (listed.setIfInBounds i true) a w)→K' a w)→if Region.wanted o (yielded ops a.tmps)=true then Oper.wp P o a w K' Q else K' (a.put o.dst undef) w) :
 Qdl P md ops Q S k (fuel+1) listed a w:=by
 refine ⟨fun h0=>(by rw [hr] at h0;cases h0),fun j hj=>?_⟩;rw [hr] at hj;obtain rfl:j=i:=by simpa using hj
 refine wpOp_step ho (fun K' hK=>h K' (fun a w hS hW=>hK a w ?_));rw [if_neg (by simpa using hik)];exact ⟨hS,hW hS⟩
theorem Qbp {listed:Array Bool}{a:Act}{w:World} (hr:Region.ready md ops listed=[]) (h:Q .normal a w):∀ fuel,wpAny P md ops Q fuel listed a w
 | 0=>⟨hr,h⟩
 | _+1=>⟨fun _=>h,by rw [hr];simp⟩
theorem Qbj (k:Nat){id:Nat}{a:Act}{w:World}(hm:P.follows .mixedOrders=true)(hS:S w.drew)
 (h:S w.drew→Qdl P .any ops Q S k ops.size (Array.replicate ops.size false) a w.drew):(Code.region id ops true).wp P Q a w :=
 wp_region_any hm (Qmx _ _ _ _ (h hS))
end
end Go.Proofs.YtdheeddnkdhfeaaGreatDoor
