/- Parts of the proof: Nt8, Nt9, Gv, Gr, Ga, GaW, Cl, ClI, Hp, Hw. -/
import Derived.Test.YthoagdpakddbdaaGreatDoorL2
import Derived.Lib.SliceRun
namespace Go.Proofs.YthoagdpakddbdaaGreatDoor
open Go.RowKit Go.Proofs.Tryz
attribute [local go_sem ↓] Go.wp_at_zero Go.wp_at_succ
theorem Qir:(Tryz.prog.info? 2).map (fun i=>(i.zero,i.size,i.bytes))=some (some (.int .i64 0),1,8):=by kernel_rfl
set_option maxHeartbeats 1000000 in
theorem Qxi (A:Option Addr)(n c:Nat)(t:Qby)(w:World)(h:RdI w A n t.costs)(hn:n≤1000000) :
 Calls prog 89 #[.agg #[.int .i64 t.ins,.int .i64 t.outs,.slice A n c]] w fun e w'=>∃ A' c',e=.returned (.agg #[.int .i64 t.ins,.int .i64 t.outs,.slice A' n c'])∧Own w' w.heap.size 2 1 A' n c' (Qad t.costs)∧Below w.heap.size w w':=by
 obtain ⟨i,o,cs⟩:=t;have h:RdI w A n cs:=h;simp only;have HR:=Zh h;clear h
 go_enter func89,ntmps89
 go_wp2_with fail
 (refine Qag ?_;intro w1 hw1)
 have hb1:Below w.heap.size w w1:=by rw [hw1];exact Qaf
 have hT1:Blk w1 w.heap.size 75 #[.int .i64 i,.int .i64 o,.slice A n c]:=by rw [hw1];exact Qaz
 have hB1:Blk w1 (w.heap.size+1) 143 #[.int .i64 0,.int .i64 0,.slice none 0 0]:=by rw [hw1];exact Qaz
 have hz1:w1.heap.size=w.heap.size+1+1:=by rw [hw1];simp
 clear hw1;obtain ⟨t0,t1,t2⟩:=hT1.three;have hb0:Below (w.heap.size+1) w1 w1.drew:=(Zr _ _).drew;have HSX:=Zh (show ∀ V,Below (w.heap.size+1) w1 V→V.cell? ⟨w.heap.size,0,none⟩=some (.int .i64 i)∧V.cell? ⟨w.heap.size,1,none⟩=some (.int .i64 o)∧V.cell? ⟨w.heap.size,2,none⟩=some (.slice A n c) from fun V hV=>⟨(hV.cell (Nat.lt_succ_self _)).trans t0,(hV.cell (Nat.lt_succ_self _)).trans t1,(hV.cell (Nat.lt_succ_self _)).trans t2⟩)
 clear t0 t1 t2;refine wp_region_held_drew (S:=fun V=>Below (w.heap.size+1) w1 V) (by kernel_rfl) hb0 (fun _=>?_);refine tz 0 3 ?_;refine tz 1 4 ?_;refine tz 2 5 ?_;refine tz 3 6 ?_;refine tz 5 8 ?_;refine tz 6 9 ?_;refine Zk 4 (fun K hK=>?_);go_simp;obtain ⟨W,hW⟩:∃ W,W=(w1.alloc (.cells #[] 2)).drew:=⟨_,rfl⟩;rw [←hW]
 have hownW:Own W (w.heap.size+1+1) 2 1 (some ⟨w1.heap.size,0,none⟩) 0 0 []:=by
  rw [hW];exact Own.drew (Own.lit w1 #[] 0 (by omega) (by omega) rfl)
 rw [hz1] at hownW;have hbW:Below (w.heap.size+1) w1 W:=by rw [hW];exact ((Zr _ _).alloc (by omega) _).drew
 have hB2:Blk W (w.heap.size+1) 143 #[.int .i64 0,.int .i64 0,.slice none 0 0]:=by rw [hW];exact Qhc
 have hbwW:Below w.heap.size w W:=hb1.trans (hbW.mono (by omega));have hrW:Rds W 1 A n (Qad cs):=(HR.out.below hbwW).rdsI;have hzW:w.heap.size+1+1≤W.heap.size:=by have:=hbW.size;omega
 clear hW;refine hK.out _ _ hbW (fun _=>?_);clear hK K;refine Zk 7 (fun K hK=>?_);with_reducible refine Qar (some 10) rfl rfl (.tmp 7) (.tmp 9) 30 rfl 2 _ 1 8 Qir underlying30 rfl (by omega) rfl rfl hownW hrW (Qam _) (by omega) (by omega) hzW ?_
 intro A' c' w' hown' hg' _;have hb5:Below (w.heap.size+1) w1 w':=Zo hbW hg' (hownW.mono (by omega)) (by omega);have hb6:Below w.heap.size w w':=Zo hbwW hg' (hownW.mono (by omega)) (by omega);have hB':=hB2.grown hg' (hownW.ne (by omega));rw [Yz,List.nil_append] at hown';have HO:=Zh (hown'.mono (show w.heap.size+2≤w.heap.size+1+1 by omega))
 refine hK.out _ _ hb5 (fun _=>?_);clear hK K hownW hrW hg' hown';simp only [Act.put,Yi,Yj,Yk,Yz];obtain ⟨c0,c1,c2⟩:=hB'.three;have f0:=hB'.frozen 0;have f1:=hB'.frozen 1;have f2:=hB'.frozen 2;refine tz 8 11 ?_;refine Zk 9 (fun K hK=>?_);go_simp;refine hK.out _ _ (((hb5.setCell (Zn _) _).setCell (Zn _) _).setCell (Zn _) _) (fun _=>?_);clear hK K;refine Zd ?_
 go_wp2_with fail
 refine bodyPost_ret (v:=.agg #[.int .i64 i,.int .i64 o,.slice A' n c']) (by simp [results,results89,go_sem,c0,c1,c2]) rfl ?_;refine ⟨A',c',rfl,?_,Qaf⟩;have:=ownsRow_setCell_below (ownsRow_setCell_below (ownsRow_setCell_below HO.out (a:=⟨w.heap.size+1,0,none⟩) (by show w.heap.size+1<w.heap.size+2;omega) (.int .i64 i)) (a:=⟨w.heap.size+1,1,none⟩) (by show w.heap.size+1<w.heap.size+2;omega) (.int .i64 o)) (a:=⟨w.heap.size+1,2,none⟩) (by show w.heap.size+1<w.heap.size+2;omega) (.slice A' n c')
 exact Own.mono this (by omega)
def YwO (W:World)(B:Nat)(A:Option Addr)(n c:Nat)(xs:List Value)(ls:List Qby):Prop :=
 Own W B 143 3 A n c xs∧ls.length=n∧∀ j t,ls[j]?=some t→∃ A2 n2 c2,xs[j*3]?=some (.int .i64 t.ins)∧xs[j*3+1]?=some (.int .i64 t.outs)∧xs[j*3+2]?=some (.slice A2 n2 c2)∧RdI W A2 n2 t.costs∧(∀ g,Qaa A2=some g→B≤g∧g<W.heap.size∧Qaa A≠some g)∧n2≤c2∧c2≤9223372036854775807
theorem YwO.nil (W:World)(B:Nat):YwO W B none 0 0 [] []:=⟨Own.nil _ _ _ _,rfl,fun j l h=>by simp at h⟩
theorem YwO.rdY {W:World}{B n c:Nat}{A:Option Addr}{xs:List Value}{ls:List Qby}(h:YwO W B A n c xs ls):RdY W A n ls :=
 ⟨h.2.1,fun i t ht=>by
  obtain ⟨A2,n2,c2,h1,h2,h3,h4,_,h5,h6⟩:=h.2.2 i t ht;obtain ⟨b,o,e,k1⟩:=h.1.rds.2 _ _ h1;obtain ⟨b',o',e',k2⟩:=h.1.rds.2 _ _ h2;rw [e] at e';cases e'
  obtain ⟨b',o',e',k3⟩:=h.1.rds.2 _ _ h3;rw [e] at e';cases e'
  exact ⟨b,o,e,k1,by rw [Nat.add_assoc];exact k2,A2,n2,c2,by rw [Nat.add_assoc];exact k3,h4,h5,h6⟩⟩
theorem YwO.push {W w':World}{B n c c' m d:Nat}{A A' R:Option Addr}{xs:List Value}{ls:List Qby}{t:Qby}(h:YwO W B A n c xs ls)
 (hown:Own w' B 143 3 A' (n+1) c' (xs ++[.int .i64 t.ins,.int .i64 t.outs,.slice R m d])) (hg:W.grownBy w' (Qaa A)) (hat:Qaa A'=Qaa A∨Qaa A'=some W.heap.size)
 (hr:RdI W R m t.costs) (hne:∀ g,Qaa R=some g→B≤g∧g<W.heap.size∧Qaa A≠some g) (h4:m≤d) (h5:d≤9223372036854775807):YwO w' B A' (n+1) c' (xs ++[.int .i64 t.ins,.int .i64 t.outs,.slice R m d]) (ls ++[t]):=by
 have hxl:xs.length=ls.length*3:=by rw [h.1.1,h.2.1]
 have new:∀ Y:Option Addr,(∀ g,Qaa Y=some g→B≤g∧g<W.heap.size∧Qaa A≠some g)→∀ g,Qaa Y=some g→B≤g∧g<w'.heap.size∧Qaa A'≠some g:=fun Y hY g e=>by
  obtain ⟨k0,k1,k2⟩:=hY g e;refine ⟨k0,Yu k1 hg.size,fun e2=>?_⟩
  rcases hat with hat|hat
  · exact k2 (by rw [←hat];exact e2)
  · rw [hat] at e2
    injection e2 with e2
    omega
 refine ⟨hown,by simp [h.2.1],fun j t' hl=>?_⟩
 rcases Nat.lt_trichotomy j ls.length with hj|hj|hj
 · rw [Yc hj] at hl
   obtain ⟨A2,n2,c2,p1,p2,p3,k2,k3,k4,k5⟩:=h.2.2 j t' hl;exact ⟨A2,n2,c2,by rw [Yc (by omega)];exact p1,by rw [Yc (by omega)];exact p2,by rw [Yc (by omega)];exact p3,k2.grownN hg (fun g e=>(k3 g e).2.2),new A2 k3,k4,k5⟩
 · subst hj
   rw [Yb (Zn _),Yy] at hl
   cases hl
   refine ⟨R,m,d,?_,?_,?_,hr.grownN hg (fun g e=>(hne g e).2.2),new R hne,h4,h5⟩
   · rw [←hxl,Yb (Zn _),Yy];rfl
   · rw [←hxl,Yb (by omega),Nat.add_sub_cancel_left];rfl
   · rw [←hxl,Yb (by omega),Nat.add_sub_cancel_left];rfl
 · rw [Yd (by simp;omega)] at hl
   cases hl
theorem YwO.below {W W':World}{B n c:Nat}{A:Option Addr}{xs:List Value}{ls:List Qby}(h:YwO W B A n c xs ls)(hb:Below W.heap.size W W'):YwO W' B A n c xs ls :=
 ⟨h.1.below hb,h.2.1,fun i l hl=>by
  obtain ⟨A',n',c',p1,p2,p3,h2,h3,h4,h5⟩:=h.2.2 i l hl;exact ⟨A',n',c',p1,p2,p3,h2.below hb,fun g hg=>⟨(h3 g hg).1,Yu (h3 g hg).2.1 hb.size,(h3 g hg).2.2⟩,h4,h5⟩⟩
theorem YwO.far {W W':World}{B n c:Nat}{A:Option Addr}{xs:List Value}{ls:List Qby}(h:YwO W B A n c xs ls){g:Nat} (hg:W.grownBy W' (some g)) (hB:g<B):YwO W' B A n c xs ls :=
 ⟨h.1.far hg (.inr (fun e=>by have:=(h.1.lt g e).1;omega)),h.2.1,fun i l hl=>by
  obtain ⟨A',n',c',p1,p2,p3,h2,h3,h4,h5⟩:=h.2.2 i l hl;refine ⟨A',n',c',p1,p2,p3,h2.grownN hg (fun k hk e=>?_),fun k hk=>⟨(h3 k hk).1,Yu (h3 k hk).2.1 hg.size,(h3 k hk).2.2⟩,h4,h5⟩
  cases e
  have:=(h3 g hk).1;omega⟩
def Le (w w':World):Prop:=∀ a v,w.cell? a=some v→w'.cell? a=some v
theorem Le.trans {a b c:World}(h:Le a b)(k:Le b c):Le a c:=fun x v hx=>k x v (h x v hx)
theorem Le.below {w w':World}(hb:Below w.heap.size w w'):Le w w':=fun _ _ h=>Zc hb (Zn _) h
section
variable {w w':World} {A:Option Addr} {n:Nat}
theorem RdK.le {k:IntKind}{l:List Int}(h:RdK k w A n l)(hl:Le w w'):RdK k w' A n l :=
 ⟨h.1,fun i x hx=>by obtain ⟨b,o,e,hc⟩:=h.2 i x hx;exact ⟨b,o,e,hl _ _ hc⟩⟩
theorem RdP.le {l:List (Int×Int)} (h:RdP w A n l) (hl:Le w w'):RdP w' A n l :=
 ⟨h.1,fun i x hx=>by obtain ⟨b,o,e,hc,hd⟩:=h.2 i x hx;exact ⟨b,o,e,hl _ _ hc,hl _ _ hd⟩⟩
theorem Rd3.le {l:List Tri}(h:Rd3 w A n l)(hl:Le w w'):Rd3 w' A n l :=
 ⟨h.1,fun i x hx=>by obtain ⟨b,o,e,h1,h2,h3⟩:=h.2 i x hx;exact ⟨b,o,e,hl _ _ h1,hl _ _ h2,hl _ _ h3⟩⟩
theorem RdT.le {ls:List (List Int)} (h:RdT w A n ls) (hl:Le w w'):RdT w' A n ls :=
 ⟨h.1,fun i l hx=>by obtain ⟨b,o,A',n',c',h1,h2,h3,h4⟩:=h.2 i l hx;exact ⟨b,o,A',n',c',h1,hl _ _ h2,h3.le hl,h4⟩⟩
theorem Qpy.le {b o:Nat}{t:Qby}(h:Qpy w b o t)(hl:Le w w'):Qpy w' b o t:=by
 obtain ⟨h1,h2,A,n,c,h3,h4,h5⟩:=h;exact ⟨hl _ _ h1,hl _ _ h2,A,n,c,hl _ _ h3,h4.le hl,h5⟩
theorem RdY.le {l:List Qby}(h:RdY w A n l)(hl:Le w w'):RdY w' A n l :=
 ⟨h.1,fun i t ht=>by obtain ⟨b,o,e,hc⟩:=h.2 i t ht;exact ⟨b,o,e,hc.le hl⟩⟩
theorem Qbc.le {B C:Option Addr}{m k:Nat}{N:Qai}(h:Qbc w A B C n m k N)(hl:Le w w'):Qbc w' A B C n m k N:=⟨h.1.le hl,h.2.1.le hl,h.2.2.le hl⟩
end
noncomputable def msk (W:World) (G:Nat→Prop):World:=by classical exact { W with heap:=W.heap.mapIdx (fun i o=>if G i then o else .cells #[] 0) }
theorem Qqm {W:World}{G:Nat→Prop}{b:Nat}(h:G b):(msk W G).heap[b]?=W.heap[b]?:=by
 unfold msk;simp only [Array.getElem?_mapIdx]
 cases W.heap[b]? with
 | none=>rfl
 | some o=>simp [h]
theorem Qao {W:World}{G:Nat→Prop}{a:Addr}{v:Value}:(msk W G).cell? a=some v↔G a.block∧W.cell? a=some v:=by
 by_cases h:G a.block
 · unfold World.cell?
   rw [Qqm h];simp [h]
 · unfold World.cell? msk
   simp only [Array.getElem?_mapIdx]
   cases W.heap[a.block]? with
   | none=>simp [h]
   | some o=>simp [h]
theorem Qbh (W:World)(G:Nat→Prop):Le (msk W G) W:=fun _ _ h=>(Qao.1 h).2
theorem Qay {W:World}{G G':Nat→Prop}(h:∀ b,G b→G' b):Le (msk W G) (msk W G'):=fun _ _ hc=>Qao.2 ⟨h _ (Qao.1 hc).1,(Qao.1 hc).2⟩
def Qax (G:Nat→Prop)(W W':World):Prop:=∀ b,G b→b<W.heap.size→W'.heap[b]?=W.heap[b]?
theorem Qax.refl (G:Nat→Prop)(W:World):Qax G W W:=fun _ _ _=>rfl
theorem Qax.trans {G:Nat→Prop}{a b c:World}(h:Qax G a b)(k:Qax G b c)(hz:a.heap.size≤b.heap.size):Qax G a c:=fun i hi hl=>(k i hi (by omega)).trans (h i hi hl)
theorem Qax.below {G:Nat→Prop}{W W':World}(h:Below W.heap.size W W'):Qax G W W':=fun b _ hl=>h.block b hl
theorem Qax.mono {G G':Nat→Prop}{W W':World}(h:Qax G W W')(hs:∀ b,G' b→G b):Qax G' W W':=fun b hb hl=>h b (hs b hb) hl
theorem Qax.grown {G:Nat→Prop}{W W':World}{r:Option Nat}(h:W.grownBy W' r)(hr:∀ b,G b→r≠some b):Qax G W W':=fun b hb hl=>h.block b hl (fun e=>hr b hb e.symm)
theorem Qax.set {G:Nat→Prop}(W:World)(g i:Nat)(v:Value)(h:¬G g):Qax G W (W.setCell ⟨g,i,none⟩ v):=Qax.grown (Qab W g i v) (fun b hb e=>h (by cases e;exact hb))
theorem Qax.msk {G:Nat→Prop}{W W':World}(h:Qax G W W'):Le (msk W G) (msk W' G):=fun a v hc=>by
 obtain ⟨h1,h2⟩:=Qao.1 hc;refine Qao.2 ⟨h1,?_⟩;rw [World.cell?_of_block (h _ h1 (Qae h2))];exact h2
section
variable {W:World} {G:Nat→Prop} {A:Option Addr} {n:Nat}
theorem RdK.msk {k:IntKind}{l:List Int}(h:RdK k W A n l)(hg:∀ b,Qaa A=some b→G b):RdK k (msk W G) A n l :=
 ⟨h.1,fun i x hx=>by obtain ⟨b,o,e,hc⟩:=h.2 i x hx;exact ⟨b,o,e,Qao.2 ⟨hg b (by rw [e];rfl),hc⟩⟩⟩
theorem RdP.msk {l:List (Int×Int)} (h:RdP W A n l) (hg:∀ b,Qaa A=some b→G b):RdP (msk W G) A n l :=
 ⟨h.1,fun i x hx=>by obtain ⟨b,o,e,hc,hd⟩:=h.2 i x hx;exact ⟨b,o,e,Qao.2 ⟨hg b (by rw [e];rfl),hc⟩,Qao.2 ⟨hg b (by rw [e];rfl),hd⟩⟩⟩
theorem Rd3.msk {l:List Tri}(h:Rd3 W A n l)(hg:∀ b,Qaa A=some b→G b):Rd3 (msk W G) A n l :=
 ⟨h.1,fun i x hx=>by
  obtain ⟨b,o,e,h1,h2,h3⟩:=h.2 i x hx;have hb:=hg b (by rw [e];rfl);exact ⟨b,o,e,Qao.2 ⟨hb,h1⟩,Qao.2 ⟨hb,h2⟩,Qao.2 ⟨hb,h3⟩⟩⟩
end
/-! Rows of Qcv, each of the call's own, as the cells of one block. -/
def IkO (W:World)(B g n:Nat) (ls:List (List Int)):Prop :=
 ls.length=n∧g<B∧∃ cs,Blk W g 93 cs∧cs.size=n∧(∀ (v:Nat) (l:List Int),ls[v]?=some l→∃ A c,cs[v]?=some (.slice A l.length c)∧Own W B 3 1 A l.length c (Qad l)) ∧
  ∀ (v v':Nat) A m c A' m' c',v≠v'→cs[v]?=some (.slice A m c)→cs[v']?=some (.slice A' m' c')→Dj A A'
theorem IkO.start {W:World}{B g n:Nat}(hg:g<B) (h:Blk W g 93 (Qbd (.slice none 0 0) n)):IkO W B g n (List.replicate n []):=by
 refine ⟨by simp,hg,_,h,by simp [Qbd],fun v l hl=>?_,fun v v' A m c A' m' c' _ h1 _=>?_⟩
 · obtain ⟨hv,e⟩:=Zs hl
   simp at e;subst e;refine ⟨none,0,?_,Own.nil _ _ _ _⟩;simp at hv;simp [Qbd,hv]
 · have e:=(Array.getElem?_eq_some_iff.1 h1).2
   simp [Qbd] at e;obtain ⟨rfl,_,_⟩:=e;exact .inl rfl
theorem IkO.grown {W W':World}{B g n:Nat}{r:Option Nat} {ls:List (List Int)} (h:IkO W B g n ls) (hg:W.grownBy W' r) (hr:∀ b,r=some b→b≠g∧b<B):IkO W' B g n ls:=by
 obtain ⟨h1,h2,cs,h3,h4,h5,h6⟩:=h;refine ⟨h1,h2,cs,h3.grown hg (fun e=>(hr g e).1 rfl),h4,fun v l hl=>?_,h6⟩;obtain ⟨A,c,k1,k2⟩:=h5 v l hl;refine ⟨A,c,k1,k2.far hg ?_⟩
 cases hA:Qaa A with
 | none=>exact .inl rfl
 | some b =>
  refine .inr (fun e=>?_);have h8:=(k2.lt b hA).1;have h9:=(hr b e.symm).2;omega
theorem IkO.below {W W':World}{B g n:Nat} {ls:List (List Int)} (h:IkO W B g n ls) (hb:Below W.heap.size W W'):IkO W' B g n ls:=by
 obtain ⟨h1,h2,cs,h3,h4,h5,h6⟩:=h
 exact ⟨h1,h2,cs,h3.below hb h3.lt,h4,fun v l hl=>by
  obtain ⟨A,c,k1,k2⟩:=h5 v l hl;exact ⟨A,c,k1,k2.below hb⟩,h6⟩
theorem IkO.row {W:World}{B g n u:Nat} {ls:List (List Int)} (h:IkO W B g n ls) (hu:u<n):∃ A c l,ls[u]?=some l∧W.cell? ⟨g,u,none⟩=some (.slice A l.length c)∧W.frozen? ⟨g,u,none⟩=false∧Own W B 3 1 A l.length c (Qad l):=by
 obtain ⟨h1,h2,cs,h3,h4,h5,h6⟩:=h;have hl:ls[u]?=some ls[u]:=Zg (by omega);obtain ⟨A,c,k1,k2⟩:=h5 u _ hl;exact ⟨A,c,_,hl,by rw [h3.cell];exact k1,h3.frozen u,k2⟩
theorem IkO.lt {W:World}{B g n:Nat} {ls:List (List Int)} (h:IkO W B g n ls):g<W.heap.size:=by
 obtain ⟨_,_,cs,h3,_⟩:=h;exact h3.lt
theorem IkO.push {W w':World}{B g n u c c':Nat}{A A':Option Addr} {ls:List (List Int)} {l:List Int} {k:Int} (h:IkO W B g n ls) (hl:ls[u]?=some l) (hc:W.cell? ⟨g,u,none⟩=some (.slice A l.length c))
 (hown:Own w' B 3 1 A' (l.length+1) c' (Qad l ++Qad [k])) (hg:W.grownBy w' (Qaa A)) (hat:Qaa A'=Qaa A∨Qaa A'=some W.heap.size) :
 IkO (w'.setCell ⟨g,u,none⟩ (.slice A' (l.length+1) c')) B g n (ls.set u (l ++[k])):=by
 obtain ⟨h1,h2,cs,h3,h4,h5,h6⟩:=h;have hu:=(Zs hl).1;have hcs:cs[u]?=some (.slice A l.length c):=by rw [←h3.cell];exact hc
 obtain ⟨A0,c0,k1,hown0⟩:=h5 u l hl;rw [hcs] at k1
 cases k1
 have hgA:Qaa A≠some g:=hown0.ne h2;have hgA':Qaa A'≠some g:=hown.ne h2;refine ⟨by rw [Yq];exact h1,h2,_,(h3.grown hg hgA).set_ u (.slice A' (l.length+1) c'),by simpa using h4,fun v l' hl'=>?_,fun v v' X m d X' m' d' hne e1 e2=>?_⟩
 · by_cases e:u=v
   · subst e
     rw [Yg hu] at hl'
     cases hl'
     refine ⟨A',c',by rw [Array.getElem?_setIfInBounds_self_of_lt (by omega),Yp];rfl,?_⟩;rw [Yp,Qbi];exact hown.far (Qab _ _ _ _) (.inr hgA')
   · rw [Yh e] at hl'
     obtain ⟨X,d,k1,k2⟩:=h5 v l' hl';refine ⟨X,d,by rw [Array.getElem?_setIfInBounds_ne e];exact k1,(k2.far hg (h6 u v _ _ _ _ _ _ e hcs k1).far).far (Qab _ _ _ _) (.inr (k2.ne h2))⟩
 · have old:∀ v X m d,u≠v→cs[v]?=some (.slice X m d)→Dj A' X:=fun v X m d hv e3=>by
    have hv2:=(Array.getElem?_eq_some_iff.1 e3).1;obtain ⟨X0,d0,k1,k2⟩:=h5 v _ (Zg (show v<ls.length by omega))
    rw [e3] at k1
    cases k1
    exact (h6 u v _ _ _ _ _ _ hv hcs e3).next k2 hat
   by_cases a1:u=v
   · subst a1
     rw [Array.getElem?_setIfInBounds_self_of_lt (by omega)] at e1
     cases e1
     rw [Array.getElem?_setIfInBounds_ne hne] at e2;exact old v' X' m' d' hne e2
   · rw [Array.getElem?_setIfInBounds_ne a1] at e1
     by_cases a2:u=v'
     · subst a2
       rw [Array.getElem?_setIfInBounds_self_of_lt (by omega)] at e2
       cases e2
       exact (old v X m d a1 e1).symm
     · rw [Array.getElem?_setIfInBounds_ne a2] at e2
       exact h6 v v' X m d X' m' d' hne e1 e2
theorem IkO.cellG {W w':World}{B g n u:Nat}{r:Option Nat} {ls:List (List Int)} (h:IkO W B g n ls) (hu:u<n) (hg:W.grownBy w' r) (hr:r≠some g):∃ v,w'.cell? ⟨g,u,none⟩=some v∧w'.frozen? ⟨g,u,none⟩=false:=by
 obtain ⟨h1,h2,cs,h3,h4,h5,h6⟩:=h;have hb:=h3.grown hg hr;exact ⟨_,by rw [hb.cell];exact Array.getElem?_eq_getElem (by omega),hb.frozen u⟩
theorem IkO.rdM {W:World}{G:Nat→Prop}{B g n:Nat} {ls:List (List Int)} (h:IkO W B g n ls) (hg:G g) (hB:∀ b,B≤b→b<W.heap.size→G b):RdT (msk W G) (some ⟨g,0,none⟩) n ls:=by
 obtain ⟨h1,h2,cs,h3,h4,h5,h6⟩:=h;refine ⟨h1,fun i l hl=>?_⟩;obtain ⟨A,c,k1,k2⟩:=h5 i l hl;exact ⟨g,0,A,l.length,c,rfl,Qao.2 ⟨hg,by rw [Yz,h3.cell];exact k1⟩,(k2.rds.rdI).msk (fun b hb=>hB b (k2.lt b hb).1 (k2.lt b hb).2),k2.cap,k2.capMax⟩
/-! The lists of a graph. -/
def idx (f:Tri→Int)(l:List Tri)(v:Int):List Int:=(l.zipIdx.filter (fun p=>f p.1 == v)).map (fun p=>(p.2:Int))
theorem idx_nil (f:Tri→Int)(v:Int):idx f [] v=[]:=rfl
theorem idx_snoc (f:Tri→Int)(l:List Tri)(a:Tri)(v:Int):idx f (l ++[a]) v=idx f l v ++(if f a == v then [(l.length:Int)] else []):=by
 unfold idx;rw [List.zipIdx_append,List.filter_append,List.map_append]
 congr 1
 cases h:f a == v <;> simp [h]
theorem Qtb {f:Tri→Int}{l:List Tri}{a:Tri}{k:Nat} (h:l[k]?=some a) (v:Int):idx f (l.take (k+1)) v=idx f (l.take k) v ++(if f a == v then [(k:Int)] else []):=by
 have hlt:=(Zs h).1;rw [Yf hlt,(Zs h).2,idx_snoc,Yw,Nat.min_eq_left (by omega)]
theorem Qho (p:Tri→Bool):∀ (l:List Tri) (i:Nat),(l.zipIdx i).countP (fun q=>p q.1)=l.countP p
 | [],_=>rfl
 | a::l,i=>by
  rw [List.zipIdx_cons,List.countP_cons,List.countP_cons,Qho p l (i+1)]
theorem Qmy (f:Tri→Int)(l:List Tri)(v:Int):(idx f l v).length=l.countP (fun a=>f a == v):=by
 unfold idx;rw [List.length_map,←List.countP_eq_length_filter];exact Qho (fun a=>f a == v) l 0
theorem Qiv {f:Tri→Int}{l:List Tri}{v x:Int}:x∈idx f l v↔∃ (i:Nat) (a:Tri),x=(i:Int)∧l[i]?=some a∧f a=v:=by
 unfold idx;simp only [List.mem_map,List.mem_filter,beq_iff_eq]
 constructor
 · rintro ⟨⟨a,i⟩,⟨h1,h2⟩,rfl⟩
   exact ⟨i,a,rfl,List.mem_zipIdx_iff_getElem?.1 h1,h2⟩
 · rintro ⟨i,a,rfl,h1,h2⟩
   exact ⟨(a,i),⟨List.mem_zipIdx_iff_getElem?.2 h1,h2⟩,rfl⟩
theorem Qmk (f:Tri→Int)(v:Int):∀ l:List Tri,(idx f l v).Pairwise (·<·):=by
 intro l;unfold idx;rw [List.pairwise_map];refine List.Pairwise.filter _ ?_;rw [List.pairwise_iff_getElem];intro i j hi hj hij;simp;exact hij
def Qif (f:Tri→Int)(l:List Tri)(n:Nat):List (List Int):=(List.range n).map (fun v:Nat=>idx f l (v:Int))
theorem Qjm (f:Tri→Int)(l:List Tri)(n:Nat):(Qif f l n).length=n:=by simp [Qif]
theorem Qde {f:Tri→Int}{l:List Tri}{n v:Nat}(h:v<n):(Qif f l n)[v]?=some (idx f l (v:Int)):=by
 unfold Qif;rw [Yt,List.getElem?_range h]
 rfl
theorem Qjl (f:Tri→Int)(n:Nat):Qif f [] n=List.replicate n []:=by
 apply List.ext_getElem?
 intro i
 rcases Nat.lt_or_ge i n with h|h
 · rw [Qde h,idx_nil];simp [h]
 · rw [Yd (by rw [Qjm];exact h),Yd (by simpa using h)]
theorem Qhq {f:Tri→Int}{l:List Tri}{n v k:Nat}{a:Tri} (ha:l[k]?=some a) (hv:f a=(v:Int)) (h:v<n) :
 (Qif f (l.take k) n).set v (idx f (l.take k) (v:Int) ++[(k:Int)])=Qif f (l.take (k+1)) n:=by
 apply List.ext_getElem?
 intro i
 rcases Nat.lt_or_ge i n with hi|hi
 · rw [Qde hi,Qtb ha]
   by_cases e:v=i
   · subst e
     rw [Yg (by rw [Qjm];exact h)];simp [hv]
   · rw [Yh e,Qde hi]
     have:(f a == (i:Int))=false:=by rw [hv];simp;omega
     simp [this]
 · rw [Yd (by rw [Yq,Qjm];exact hi),Yd (by rw [Qjm];exact hi)]
def Qfg (l:List Tri)(k:Nat)(a:Tri):Int×Int:=(((idx (·.2.1) (l.take k) a.2.1).length:Nat),((idx (·.1) (l.take k) a.1).length:Nat))
def plcs (l:List Tri):List (Int×Int):=l.zipIdx.map (fun p=>Qfg l p.2 p.1)
theorem Qjk (l:List Tri):(plcs l).length=l.length:=by simp [plcs]
theorem Qhj {l:List Tri}{k:Nat}{a:Tri} (h:l[k]?=some a):(plcs l)[k]?=some (Qfg l k a):=by
 unfold plcs;rw [Yt,List.getElem?_zipIdx,h];simp
theorem Qhw (f:Tri→Int)(l:List Tri)(k:Nat)(v:Int):(idx f (l.take k) v).length≤k:=by rw [Qmy];exact Qlb f l k v
def TabAt2 (w v:World)(b o:Nat)(t:Qby):Prop:=w.cell? ⟨b,o,none⟩=some (.int .i64 t.ins)∧w.cell? ⟨b,o+1,none⟩=some (.int .i64 t.outs)∧∃ (A:Option Addr) (n c:Nat),w.cell? ⟨b,o+2,none⟩=some (.slice A n c)∧RdI v A n t.costs∧n≤c∧c≤9223372036854775807
def RdY2 (w v:World)(A:Option Addr)(n:Nat)(l:List Qby):Prop:=l.length=n∧∀ i t,l[i]?=some t→∃ b o,A=some ⟨b,o,none⟩∧TabAt2 w v b (o+i*3) t
theorem RdY2.rdY {w v:World}{A:Option Addr}{n:Nat}{l:List Qby}(h:RdY2 w v A n l)(hl:Le v w):RdY w A n l :=
 ⟨h.1,fun i t ht=>by
  obtain ⟨b,o,e,h1,h2,A',n',c',h3,h4,h5⟩:=h.2 i t ht;exact ⟨b,o,e,h1,h2,A',n',c',h3,h4.le hl,h5⟩⟩
theorem RdY2.le {w w' v v':World}{A:Option Addr}{n:Nat}{l:List Qby}(h:RdY2 w v A n l)(hw:∀ b o x,Qaa A=some b→w.cell? ⟨b,o,none⟩=some x→w'.cell? ⟨b,o,none⟩=some x)(hl:Le v v'):RdY2 w' v' A n l :=
 ⟨h.1,fun i t ht=>by
  obtain ⟨b,o,e,h1,h2,A',n',c',h3,h4,h5⟩:=h.2 i t ht;have hb:Qaa A=some b:=by rw [e];rfl
  exact ⟨b,o,e,hw _ _ _ hb h1,hw _ _ _ hb h2,A',n',c',hw _ _ _ hb h3,h4.le hl,h5⟩⟩
def Qvg (W:World)(A:Option Addr):Prop:=∀ b,Qaa A=some b→b<W.heap.size∧∀ o,W.frozen? ⟨b,o,none⟩=false
theorem Qvg.keep {W W':World}{A:Option Addr}(h:Qvg W A)(hz:W.heap.size≤W'.heap.size) (hk:∀ b,Qaa A=some b→W'.heap[b]?=W.heap[b]?):Qvg W' A:=fun b hb =>
 ⟨Yu (h b hb).1 hz,fun o=>by rw [World.frozen?_of_block (hk b hb)];exact (h b hb).2 o⟩
theorem Own.warm {w:World}{B s n c:Nat}{e:TypeId}{A:Option Addr}{xs:List Value}(h:Own w B e s A n c xs):Qvg w A:=fun b hb=>by
 refine ⟨(h.lt b hb).2,fun o=>?_⟩
 rcases h.2 with ⟨h',_⟩|⟨g,cap,cur,h1,h2,h3,_⟩
 · cases h';cases hb
 · cases h1
   cases hb
   exact Blk.frozen (t:=e) (cs:=cur) h3 o
structure Qpj (W:World) (G:Nat→Prop) (A B C:Option Addr) (n m k:Nat) (N:Qai):Prop where
 vs:Rd3 (msk W G) A n N.vs
 ar:Rd3 W B m N.ar
 ts:RdY2 W (msk W G) C k N.ts
 wa:Qvg W B
 wt:Qvg W C
 ga:∀ b,Qaa B=some b→¬G b
 gt:∀ b,Qaa C=some b→¬G b
 ac:∀ b,Qaa B=some b→Qaa C≠some b
theorem Qdi {W W':World}{b o:Nat}{x:Value} (hk:W'.heap[b]?=W.heap[b]?) (h:W.cell? ⟨b,o,none⟩=some x):W'.cell? ⟨b,o,none⟩=some x:=by
 rw [World.cell?_of_block (a:=⟨b,o,none⟩) hk];exact h
theorem Rd3.keep {W W':World}{A:Option Addr}{n:Nat}{l:List Tri}(h:Rd3 W A n l) (hk:∀ b,Qaa A=some b→W'.heap[b]?=W.heap[b]?):Rd3 W' A n l :=
 ⟨h.1,fun i x hx=>by
  obtain ⟨b,o,e,h1,h2,h3⟩:=h.2 i x hx;have hb:=hk b (by rw [e];rfl);exact ⟨b,o,e,Qdi hb h1,Qdi hb h2,Qdi hb h3⟩⟩
section
variable {W W':World} {G:Nat→Prop} {A B C:Option Addr} {n m k:Nat} {N:Qai}
theorem Qpj.rd (h:Qpj W G A B C n m k N):Qbc W A B C n m k N:=⟨h.vs.le (Qbh W G),h.ar,h.ts.rdY (Qbh W G)⟩
theorem Qpj.keep (h:Qpj W G A B C n m k N)(hz:W.heap.size≤W'.heap.size)(hG:Qax G W W') (hB:∀ b,Qaa B=some b→W'.heap[b]?=W.heap[b]?) (hC:∀ b,Qaa C=some b→W'.heap[b]?=W.heap[b]?):Qpj W' G A B C n m k N where
 vs:=h.vs.le hG.msk
 ar:=h.ar.keep hB
 ts:=h.ts.le (fun b _ _ hb hc=>Qdi (hC b hb) hc) hG.msk
 wa:=h.wa.keep hz hB
 wt:=h.wt.keep hz hC
 ga:=h.ga
 gt:=h.gt
 ac:=h.ac
theorem Qpj.below (h:Qpj W G A B C n m k N)(hb:Below W.heap.size W W'):Qpj W' G A B C n m k N :=
 h.keep hb.size (Qax.below hb) (fun b e=>hb.block b (h.wa b e).1) (fun b e=>hb.block b (h.wt b e).1)
theorem Qpj.mono {G':Nat→Prop}(h:Qpj W G A B C n m k N)(hs:∀ b,G b→G' b)(ha:∀ b,Qaa B=some b→¬G' b)(ht:∀ b,Qaa C=some b→¬G' b):Qpj W G' A B C n m k N where
 vs:=h.vs.le (Qay hs)
 ar:=h.ar
 ts:=h.ts.le (fun _ _ _ _ hc=>hc) (Qay hs)
 wa:=h.wa
 wt:=h.wt
 ga:=ha
 gt:=ht
 ac:=h.ac
end
structure GrR (W:World) (F G:Nat→Prop) (g:Nat) (A B C I O P:Option Addr) (n m k c d e ci co cp:Nat) (N:Qai):Prop where
 net:Qpj W G A B C n m k N
 blk:Blk W g 149 #[.slice A n c,.slice B m d,.slice C k e,.slice I n ci,.slice O n co,.slice P m cp]
 gg:G g
 ins:RdT (msk W G) I n (Qif (·.2.1) N.ar n)
 outs:RdT (msk W G) O n (Qif (·.1) N.ar n)
 plc:RdP (msk W G) P m (plcs N.ar)
 sub:∀ b,(G b∨Qaa B=some b∨Qaa C=some b)→F b
 lt:∀ b,F b→b<W.heap.size
 ok:Qav N
 c0:n≤c∧c≤9223372036854775807
 c1:m≤d∧d≤9223372036854775807
 c2:k≤e∧e≤9223372036854775807
def GrO (W:World)(F:Nat→Prop)(g:Nat)(N:Qai):Prop:=∃ (G:Nat→Prop) (A B C I O P:Option Addr) (n m k c d e ci co cp:Nat),GrR W F G g A B C I O P n m k c d e ci co cp N
structure GrV (W:World) (g:Nat) (A B C I O P:Option Addr) (n m k c d e ci co cp:Nat) (N:Qai):Prop where
 net:Qbc W A B C n m k N
 n0:W.cell? ⟨g,0,none⟩=some (.slice A n c)
 n1:W.cell? ⟨g,1,none⟩=some (.slice B m d)
 n2:W.cell? ⟨g,2,none⟩=some (.slice C k e)
 n3:W.cell? ⟨g,3,none⟩=some (.slice I n ci)
 n4:W.cell? ⟨g,4,none⟩=some (.slice O n co)
 n5:W.cell? ⟨g,5,none⟩=some (.slice P m cp)
 ins:RdT W I n (Qif (·.2.1) N.ar n)
 outs:RdT W O n (Qif (·.1) N.ar n)
 plc:RdP W P m (plcs N.ar)
 ok:Qav N
 c0:n≤c∧c≤9223372036854775807
 c1:m≤d∧d≤9223372036854775807
 c2:k≤e∧e≤9223372036854775807
def Qgm (W:World)(g:Nat)(N:Qai):Prop:=∃ (A B C I O P:Option Addr) (n m k c d e ci co cp:Nat),GrV W g A B C I O P n m k c d e ci co cp N
theorem Qgm.le {W W':World}{g:Nat}{N:Qai}(h:Qgm W g N)(hl:Le W W'):Qgm W' g N:=by
 obtain ⟨A,B,C,I,O,P,n,m,k,c,d,e,ci,co,cp,h⟩:=h;exact ⟨A,B,C,I,O,P,n,m,k,c,d,e,ci,co,cp,h.net.le hl,hl _ _ h.n0,hl _ _ h.n1,hl _ _ h.n2,hl _ _ h.n3,hl _ _ h.n4,hl _ _ h.n5,h.ins.le hl,h.outs.le hl,h.plc.le hl,h.ok,h.c0,h.c1,h.c2⟩
theorem Qgm.below {W W':World}{g:Nat}{N:Qai}(h:Qgm W g N)(hb:Below W.heap.size W W'):Qgm W' g N:=h.le (Le.below hb)
theorem Blk.six {w:World}{g:Nat}{t:TypeId}{a b c d e f:Value} (h:Blk w g t #[a,b,c,d,e,f]) :
 w.cell? ⟨g,0,none⟩=some a∧w.cell? ⟨g,1,none⟩=some b∧w.cell? ⟨g,2,none⟩=some c∧w.cell? ⟨g,3,none⟩=some d∧w.cell? ⟨g,4,none⟩=some e∧w.cell? ⟨g,5,none⟩=some f :=
 ⟨Zq h,Zq h,Zq h,Zq h,Zq h,Zq h⟩
theorem GrO.rd {W:World}{F:Nat→Prop}{g:Nat}{N:Qai}(h:GrO W F g N):Qgm W g N:=by
 obtain ⟨G,A,B,C,I,O,P,n,m,k,c,d,e,ci,co,cp,h⟩:=h;obtain ⟨h0,h1,h2,h3,h4,h5⟩:=h.blk.six;exact ⟨A,B,C,I,O,P,n,m,k,c,d,e,ci,co,cp,h.net.rd,h0,h1,h2,h3,h4,h5,h.ins.le (Qbh W G),h.outs.le (Qbh W G),h.plc.le (Qbh W G),h.ok,h.c0,h.c1,h.c2⟩
theorem GrO.keep {W W':World}{F:Nat→Prop}{g:Nat}{N:Qai}(h:GrO W F g N)(hz:W.heap.size≤W'.heap.size)(hF:Qax F W W'):GrO W' F g N:=by
 obtain ⟨G,A,B,C,I,O,P,n,m,k,c,d,e,ci,co,cp,h⟩:=h;have hG:Qax G W W':=hF.mono (fun b hb=>h.sub b (.inl hb));refine ⟨G,A,B,C,I,O,P,n,m,k,c,d,e,ci,co,cp,?_,(hF g (h.sub g (.inl h.gg)) h.blk.lt).trans h.blk,h.gg,h.ins.le hG.msk,h.outs.le hG.msk,h.plc.le hG.msk,h.sub,fun b hb=>Yu (h.lt b hb) hz,h.ok,h.c0,h.c1,h.c2⟩;exact h.net.keep hz hG (fun b hb=>hF b (h.sub b (.inr (.inl hb))) (h.net.wa b hb).1) (fun b hb=>hF b (h.sub b (.inr (.inr hb))) (h.net.wt b hb).1)
theorem GrO.below {W W':World}{F:Nat→Prop}{g:Nat}{N:Qai}(h:GrO W F g N)(hb:Below W.heap.size W W'):GrO W' F g N:=h.keep hb.size (Qax.below hb)
theorem GrO.lt {W:World}{F:Nat→Prop}{g b:Nat}{N:Qai}(h:GrO W F g N)(hb:F b):b<W.heap.size:=by
 obtain ⟨G,A,B,C,I,O,P,n,m,k,c,d,e,ci,co,cp,h⟩:=h;exact h.lt b hb
theorem GrO.ok {W:World}{F:Nat→Prop}{g:Nat}{N:Qai}(h:GrO W F g N):Qav N:=by
 obtain ⟨G,A,B,C,I,O,P,n,m,k,c,d,e,ci,co,cp,h⟩:=h;exact h.ok
theorem Qav.arLe {N:Qai}(h:Qav N){m:Nat}(e:N.ar.length=m):m≤16384:=by rw [←e];exact h.la
theorem Qii (g:Nat)(N:Qai)(w:World)(h:Qgm w g N):Calls prog 51 #[.pointer (some ⟨g,0,none⟩)] w fun e w'=>e=.returned (.int .i64 (N.vs.length:Int))∧w=w':=by
 obtain ⟨A,B,C,I,O,P,n,m,k,c,d,e,ci,co,cp,h⟩:=h;have h0:=h.n0;have HL:=Zh h.net.1.1;clear h
 go_enter func51,ntmps51
 go_wp2
 go_ret
 exact ⟨Qbu (by rw [HL.out]),rfl⟩
theorem Qhk (g:Nat)(N:Qai)(w:World)(h:Qgm w g N):Calls prog 52 #[.pointer (some ⟨g,0,none⟩)] w fun e w'=>e=.returned (.int .i64 (N.ar.length:Int))∧w=w':=by
 obtain ⟨A,B,C,I,O,P,n,m,k,c,d,e,ci,co,cp,h⟩:=h;have h1:=h.n1;have HL:=Zh h.net.2.1.1;clear h
 go_enter func52,ntmps52
 go_wp2
 go_ret
 exact ⟨Qbu (by rw [HL.out]),rfl⟩
theorem Qis (g:Nat)(N:Qai)(a:Int)(w:World)(h:Qgm w g N)(h0:0≤a)(h1:a<N.ar.length):Calls prog 70 #[.pointer (some ⟨g,0,none⟩),.int .i64 a] w fun e w'=>e=.returned (.bool true)∧w=w':=by
 obtain ⟨A,B,C,I,O,P,n,m,k,c,d,e,ci,co,cp,h⟩:=h;have hn1:=h.n1;have hl:=h.net.2.1.1;rw [hl] at h1;clear hl h
 go_enter func70,ntmps70
 go_wp2
 go_ret
 exact ⟨Qbe (by first|(simp;done)|(simp;omega)),rfl⟩
theorem Qhr (g a:Nat)(N:Qai)(x:Tri)(w:World)(h:Qgm w g N) (hx:N.ar[a]?=some x):Calls prog 56 #[.pointer (some ⟨g,0,none⟩),.int .i64 a] w fun e w'=>e=.returned (.int .i64 x.1)∧w=w':=by
 have HA:=Zh (show ∀ V,V=w→Calls prog 70 #[.pointer (some ⟨g,0,none⟩),.int .i64 a] V fun e w'=>e=.returned (.bool true)∧V=w' from fun V e=>e▸Qis g N a w h (by omega) (by have:=(Zs hx).1;omega))
 obtain ⟨A,B,C,I,O,P,n,m,k,c,d,e,ci,co,cp,h⟩:=h;have hn1:=h.n1;have ha:a<m:=by have:=(Zs hx).1;rw [h.net.2.1.1] at this;exact this
 have hm:=h.ok.arLe h.net.2.1.1;obtain ⟨b,o,x',y',z',rfl,hx',cx,cy,cz⟩:=h.net.2.1.at_ ha;rw [hx] at hx'
 cases hx'
 have i1:(0:Int)≤(a:Int):=by omega
 have i2:(a:Int)<(m:Int):=by omega
 clear hx h
 go_enter func56,ntmps56
 go_wp2_with fail
 with_reducible refine (HA.out _ rfl).mono ?_
 rintro e w' ⟨rfl,rfl⟩
 go_wp2
 go_ret
 exact ⟨rfl,rfl⟩
theorem Qlz (g a:Nat)(N:Qai)(x:Tri)(w:World)(h:Qgm w g N) (hx:N.ar[a]?=some x):Calls prog 57 #[.pointer (some ⟨g,0,none⟩),.int .i64 a] w fun e w'=>e=.returned (.int .i64 x.2.1)∧w=w':=by
 have HA:=Zh (show ∀ V,V=w→Calls prog 70 #[.pointer (some ⟨g,0,none⟩),.int .i64 a] V fun e w'=>e=.returned (.bool true)∧V=w' from fun V e=>e▸Qis g N a w h (by omega) (by have:=(Zs hx).1;omega))
 obtain ⟨A,B,C,I,O,P,n,m,k,c,d,e,ci,co,cp,h⟩:=h;have hn1:=h.n1;have ha:a<m:=by have:=(Zs hx).1;rw [h.net.2.1.1] at this;exact this
 have hm:=h.ok.arLe h.net.2.1.1;obtain ⟨b,o,x',y',z',rfl,hx',cx,cy,cz⟩:=h.net.2.1.at_ ha;rw [hx] at hx'
 cases hx'
 have i1:(0:Int)≤(a:Int):=by omega
 have i2:(a:Int)<(m:Int):=by omega
 clear hx h
 go_enter func57,ntmps57
 go_wp2_with fail
 with_reducible refine (HA.out _ rfl).mono ?_
 rintro e w' ⟨rfl,rfl⟩
 go_wp2
 go_ret
 exact ⟨rfl,rfl⟩
theorem Qet (g a:Nat)(N:Qai)(x:Tri)(w:World)(h:Qgm w g N) (hx:N.ar[a]?=some x):Calls prog 32 #[.pointer (some ⟨g,0,none⟩),.int .i64 a] w fun e w'=>e=.returned (.int .i64 x.2.2)∧w=w':=by
 have HA:=Zh (show ∀ V,V=w→Calls prog 70 #[.pointer (some ⟨g,0,none⟩),.int .i64 a] V fun e w'=>e=.returned (.bool true)∧V=w' from fun V e=>e▸Qis g N a w h (by omega) (by have:=(Zs hx).1;omega))
 obtain ⟨A,B,C,I,O,P,n,m,k,c,d,e,ci,co,cp,h⟩:=h;have hn1:=h.n1;have ha:a<m:=by have:=(Zs hx).1;rw [h.net.2.1.1] at this;exact this
 have hm:=h.ok.arLe h.net.2.1.1;obtain ⟨b,o,x',y',z',rfl,hx',cx,cy,cz⟩:=h.net.2.1.at_ ha;rw [hx] at hx'
 cases hx'
 have i1:(0:Int)≤(a:Int):=by omega
 have i2:(a:Int)<(m:Int):=by omega
 clear hx h
 go_enter func32,ntmps32
 go_wp2_with fail
 with_reducible refine (HA.out _ rfl).mono ?_
 rintro e w' ⟨rfl,rfl⟩
 go_wp2
 go_ret
 exact ⟨rfl,rfl⟩
theorem infoClI:(Tryz.prog.info? 3).map (fun i=>(i.zero,i.size,i.bytes))=some (some (.int .i64 0),1,8):=by kernel_rfl
theorem infoClL:(Tryz.prog.info? 2).map (fun i=>(i.zero,i.size,i.bytes))=some (some (.int .i64 0),1,8):=by kernel_rfl
set_option maxHeartbeats 1000000 in
theorem Qmn (A:Option Addr)(n c:Nat)(xs:List Value)(w:World)(h:Rds w 1 A n xs)(h1:∀ u∈xs,u.oneCell'=true)(hn:n≤1000000000) :
 Calls prog 125 #[.slice A n c] w fun e w'=>∃ A' c',e=.returned (.slice A' n c')∧Own w' w.heap.size 2 1 A' n c' xs∧Below w.heap.size w w':=by
 have q22:∀ (w:World) (a:Option Addr) (n c n' c':Nat),(binOp .eql 30 (.slice a n c) (.slice none n' c')).run prog w=.ok (.bool a.isNone) w:=fun w a n c n' c'=>Lib.run_eql_slice_nil w _ _ a n c n' c' underlying30
 cases A with
 | none =>
  have hl:xs=[]:=by
   cases hl:xs with
   | nil=>rfl
   | cons p t =>
    obtain ⟨b,o,e,_⟩:=h.2 0 p (by rw [hl];rfl)
    cases e
  subst hl;have h0:n=0:=by have:=h.1;simp at this;omega
  subst h0
  go_enter func125,ntmps125
  go_wp2
  go_ret
  exact ⟨none,0,rfl,Own.nil _ _ _ _,Qaf⟩
 | some a =>
  have hb1:∀ o,Below w.heap.size w (w.alloc o):=fun o=>(Zr _ _).alloc (Zn _) o
  have hown0:Own (w.alloc (.cells #[] 2)) w.heap.size 2 1 (some ⟨w.heap.size,0,none⟩) 0 0 []:=Own.lit w #[] 0 (Zn _) (by omega) rfl
  go_enter func125,ntmps125
  go_wp2_with (at_builtin;with_reducible refine Qas rfl (.tmp 5) (.tmp 6) 30 rfl 2 _ 1 8 infoClL underlying30 rfl (by omega) (B:=w.heap.size) rfl rfl hown0 (h.below (hb1 _)) h1 (by omega) (by omega) (by simp) ?_)
  intro A' c' w' hown hg _;have hb2:Below w.heap.size w w':=Zo (hb1 _) hg hown0 (by simp)
  try simp only [Yz,List.nil_append] at hown
  have HO:=Zh hown;clear hown hg
  go_wp2
  go_ret
  exact ⟨_,_,rfl,HO.out,hb2⟩
theorem infoClV:(Tryz.prog.info? 144).map (fun i=>(i.zero,i.size,i.bytes))=some (some (.agg #[.int .i64 0,.int .i64 0,.int .i64 0]),3,24):=by kernel_rfl
set_option maxHeartbeats 1000000 in
theorem Quc (A:Option Addr)(n c:Nat)(xs:List Value)(w:World)(h:Rds w 3 A n xs)(h1:∀ u∈xs,u.oneCell'=true)(hn:n≤1000000000) :
 Calls prog 126 #[.slice A n c] w fun e w'=>∃ A' c',e=.returned (.slice A' n c')∧Own w' w.heap.size 144 3 A' n c' xs∧Below w.heap.size w w':=by
 have q22:∀ (w:World) (a:Option Addr) (n c n' c':Nat),(binOp .eql 116 (.slice a n c) (.slice none n' c')).run prog w=.ok (.bool a.isNone) w:=fun w a n c n' c'=>Lib.run_eql_slice_nil w _ _ a n c n' c' underlying116
 cases A with
 | none =>
  have hl:xs=[]:=by
   cases hl:xs with
   | nil=>rfl
   | cons p t =>
    obtain ⟨b,o,e,_⟩:=h.2 0 p (by rw [hl];rfl)
    cases e
  subst hl;have h0:n=0:=by have:=h.1;simp at this;omega
  subst h0
  go_enter func126,ntmps126
  go_wp2
  go_ret
  exact ⟨none,0,rfl,Own.nil _ _ _ _,Qaf⟩
 | some a =>
  have hb1:∀ o,Below w.heap.size w (w.alloc o):=fun o=>(Zr _ _).alloc (Zn _) o
  have hown0:Own (w.alloc (.cells #[] 144)) w.heap.size 144 3 (some ⟨w.heap.size,0,none⟩) 0 0 []:=Own.lit w #[] 0 (Zn _) (by omega) rfl
  go_enter func126,ntmps126
  go_wp2_with (at_builtin;with_reducible refine Qas rfl (.tmp 5) (.tmp 6) 116 rfl 144 _ 3 24 infoClV underlying116 rfl (by omega) (B:=w.heap.size) rfl rfl hown0 (h.below (hb1 _)) h1 (by omega) (by omega) (by simp) ?_)
  intro A' c' w' hown hg _;have hb2:Below w.heap.size w w':=Zo (hb1 _) hg hown0 (by simp)
  try simp only [Yz,List.nil_append] at hown
  have HO:=Zh hown;clear hown hg
  go_wp2
  go_ret
  exact ⟨_,_,rfl,HO.out,hb2⟩
theorem infoClA:(Tryz.prog.info? 146).map (fun i=>(i.zero,i.size,i.bytes))=some (some (.agg #[.int .i64 0,.int .i64 0,.int .i64 0]),3,24):=by kernel_rfl
set_option maxHeartbeats 1000000 in
theorem Qvl (A:Option Addr)(n c:Nat)(xs:List Value)(w:World)(h:Rds w 3 A n xs)(h1:∀ u∈xs,u.oneCell'=true)(hn:n≤1000000000) :
 Calls prog 127 #[.slice A n c] w fun e w'=>∃ A' c',e=.returned (.slice A' n c')∧Own w' w.heap.size 146 3 A' n c' xs∧Below w.heap.size w w':=by
 have q22:∀ (w:World) (a:Option Addr) (n c n' c':Nat),(binOp .eql 117 (.slice a n c) (.slice none n' c')).run prog w=.ok (.bool a.isNone) w:=fun w a n c n' c'=>Lib.run_eql_slice_nil w _ _ a n c n' c' underlying117
 cases A with
 | none =>
  have hl:xs=[]:=by
   cases hl:xs with
   | nil=>rfl
   | cons p t =>
    obtain ⟨b,o,e,_⟩:=h.2 0 p (by rw [hl];rfl)
    cases e
  subst hl;have h0:n=0:=by have:=h.1;simp at this;omega
  subst h0
  go_enter func127,ntmps127
  go_wp2
  go_ret
  exact ⟨none,0,rfl,Own.nil _ _ _ _,Qaf⟩
 | some a =>
  have hb1:∀ o,Below w.heap.size w (w.alloc o):=fun o=>(Zr _ _).alloc (Zn _) o
  have hown0:Own (w.alloc (.cells #[] 146)) w.heap.size 146 3 (some ⟨w.heap.size,0,none⟩) 0 0 []:=Own.lit w #[] 0 (Zn _) (by omega) rfl
  go_enter func127,ntmps127
  go_wp2_with (at_builtin;with_reducible refine Qas rfl (.tmp 5) (.tmp 6) 117 rfl 146 _ 3 24 infoClA underlying117 rfl (by omega) (B:=w.heap.size) rfl rfl hown0 (h.below (hb1 _)) h1 (by omega) (by omega) (by simp) ?_)
  intro A' c' w' hown hg _;have hb2:Below w.heap.size w w':=Zo (hb1 _) hg hown0 (by simp)
  try simp only [Yz,List.nil_append] at hown
  have HO:=Zh hown;clear hown hg
  go_wp2
  go_ret
  exact ⟨_,_,rfl,HO.out,hb2⟩
set_option maxHeartbeats 1000000 in
theorem Qmc (A:Option Addr)(n c:Nat)(xs:List Value)(w:World)(h:Rds w 1 A n xs)(h1:∀ u∈xs,u.oneCell'=true)(hn:n≤1000000000) :
 Calls prog 128 #[.slice A n c] w fun e w'=>∃ A' c',e=.returned (.slice A' n c')∧Own w' w.heap.size 3 1 A' n c' xs∧Below w.heap.size w w':=by
 have q22:∀ (w:World) (a:Option Addr) (n c n' c':Nat),(binOp .eql 93 (.slice a n c) (.slice none n' c')).run prog w=.ok (.bool a.isNone) w:=fun w a n c n' c'=>Lib.run_eql_slice_nil w _ _ a n c n' c' underlying93
 cases A with
 | none =>
  have hl:xs=[]:=by
   cases hl:xs with
   | nil=>rfl
   | cons p t =>
    obtain ⟨b,o,e,_⟩:=h.2 0 p (by rw [hl];rfl)
    cases e
  subst hl;have h0:n=0:=by have:=h.1;simp at this;omega
  subst h0
  go_enter func128,ntmps128
  go_wp2
  go_ret
  exact ⟨none,0,rfl,Own.nil _ _ _ _,Qaf⟩
 | some a =>
  have hb1:∀ o,Below w.heap.size w (w.alloc o):=fun o=>(Zr _ _).alloc (Zn _) o
  have hown0:Own (w.alloc (.cells #[] 3)) w.heap.size 3 1 (some ⟨w.heap.size,0,none⟩) 0 0 []:=Own.lit w #[] 0 (Zn _) (by omega) rfl
  go_enter func128,ntmps128
  go_wp2_with (at_builtin;with_reducible refine Qas rfl (.tmp 5) (.tmp 6) 93 rfl 3 _ 1 8 infoClI underlying93 rfl (by omega) (B:=w.heap.size) rfl rfl hown0 (h.below (hb1 _)) h1 (by omega) (by omega) (by simp) ?_)
  intro A' c' w' hown hg _;have hb2:Below w.heap.size w w':=Zo (hb1 _) hg hown0 (by simp)
  try simp only [Yz,List.nil_append] at hown
  have HO:=Zh hown;clear hown hg
  go_wp2
  go_ret
  exact ⟨_,_,rfl,HO.out,hb2⟩
end Go.Proofs.YthoagdpakddbdaaGreatDoor
namespace Go.Proofs.YthoagdpakddbdaaGreatDoor
/-! A binary heap, by the costs at its places; plain. -/
def Ord (c:Nat→Int)(len:Nat):Prop:=∀ i,0<i→i<len→c ((i-1) / 2)≤c i
structure UpO (c:Nat→Int) (len p:Nat):Prop where
 o:∀ i,0<i→i<len→i≠p→c ((i-1) / 2)≤c i
 g:∀ i,0<i→i<len→(i-1) / 2=p→0<p→c ((p-1) / 2)≤c i
structure Qhx (c:Nat→Int) (len p:Nat):Prop where
 o:∀ i,0<i→i<len→(i-1) / 2≠p→c ((i-1) / 2)≤c i
 g:∀ i,0<i→i<len→(i-1) / 2=p→0<p→c ((p-1) / 2)≤c i
def Qlo (c:Nat→Int)(i j:Nat):Nat→Int:=fun x=>if x=i then c j else if x=j then c i else c x
theorem Qgw (c:Nat→Int)(i j:Nat):Qlo c i j i=c j:=by simp [Qlo]
theorem Qrx (c:Nat→Int)(i j:Nat):Qlo c i j j=c i:=by
 unfold Qlo
 by_cases h:j=i
 · simp [h]
 · simp [h]
theorem Qfw (c:Nat→Int){i j x:Nat}(h:x≠i)(h':x≠j):Qlo c i j x=c x:=by simp [Qlo,h,h']
theorem UpO.done {c:Nat→Int}{len p:Nat}(h:UpO c len p) (hp:p=0∨c ((p-1) / 2)≤c p):Ord c len:=fun i h0 hl=>by
 by_cases e:i=p
 · subst e
   rcases hp with hp|hp
   · omega
   · exact hp
 · exact h.o i h0 hl e
theorem UpO.step {c:Nat→Int}{len p:Nat}(h:UpO c len p)(h0:0<p)(hl:p<len) (hc:c p≤c ((p-1) / 2)):UpO (Qlo c p ((p-1) / 2)) len ((p-1) / 2):=by
 have hq:(p-1) / 2<p:=by omega
 generalize hqe:(p-1) / 2=q at *;refine ⟨fun i hi hil hne=>?_,fun i hi hil hpi hqp=>?_⟩
 · by_cases e1:i=p
   · subst e1
     rw [hqe,Qrx,Qgw];exact hc
   · rw [Qfw c e1 hne]
     by_cases e2:(i-1) / 2=p
     · rw [e2,Qgw]
       have:=h.g i hi hil e2 h0;rw [hqe] at this;exact this
     · by_cases e3:(i-1) / 2=q
       · rw [e3,Qrx]
         have:=h.o i hi hil e1;rw [e3] at this;omega
       · rw [Qfw c e2 e3]
         exact h.o i hi hil e1
 · have e0:(q-1) / 2≠q:=by omega
   have e0':(q-1) / 2≠p:=by omega
   rw [Qfw c e0' e0];have hgq:=h.o q hqp (by omega) (by omega)
   by_cases e1:i=p
   · subst e1
     rw [Qgw];exact hgq
   · rw [Qfw c e1 (by omega)]
     have:=h.o i hi hil e1;rw [hpi] at this;omega
theorem Qhx.done {c:Nat→Int}{len p:Nat}(h:Qhx c len p) (hp:∀ i,0<i→i<len→(i-1) / 2=p→c p≤c i):Ord c len:=fun i h0 hl=>by
 by_cases e:(i-1) / 2=p
 · rw [e];exact hp i h0 hl e
 · exact h.o i h0 hl e
theorem Qhx.step {c:Nat→Int}{len p m:Nat}(h:Qhx c len p)(h0:0<m)(hl:m<len) (hm:(m-1) / 2=p) (hc:c m≤c p) (ho:∀ i,0<i→i<len→(i-1) / 2=p→c m≤c i):Qhx (Qlo c p m) len m:=by
 have hpm:p<m:=by omega
 refine ⟨fun i hi hil hne=>?_,fun i hi hil hpi _=>?_⟩
 · by_cases e1:i=m
   · subst e1
     rw [hm,Qgw,Qrx];exact hc
   · by_cases e2:i=p
     · subst e2
       have e3:(i-1) / 2≠i:=by omega
       rw [Qgw,Qfw c e3 hne];exact h.g m h0 hl hm hi
     · rw [Qfw c e2 e1]
       by_cases e3:(i-1) / 2=p
       · rw [e3,Qgw]
         exact ho i hi hil e3
       · rw [Qfw c e3 hne]
         exact h.o i hi hil e3
 · rw [hm,Qgw,Qfw c (by omega) (by omega)]
   have:=h.o i hi hil (by omega);rw [hpi] at this;exact this
theorem Ord.root {c:Nat→Int}{len:Nat}(h:Ord c len):∀ i,i<len→c 0≤c i:=by
 intro i
 induction i using Nat.strongRecOn with
 | ind i ih =>
  intro hl
  by_cases e:i=0
  · subst e;exact Int.le_refl _
  · have h1:=h i (by omega) hl
    have h2:=ih ((i-1) / 2) (by omega) (by omega);omega
theorem Ord.pop {c c':Nat→Int}{len:Nat} (h:Ord c (len+1)) (hc:∀ i,0<i→i<len→c' i=c i):Qhx c' len 0 :=
 ⟨fun i hi hl hne=>by rw [hc i hi hl,hc _ (by omega) (by omega)];exact h i hi (by omega),fun i hi hl hp h0=>by omega⟩
theorem Ord.push {c c':Nat→Int}{len:Nat}(h:Ord c len)(hc:∀ i,i<len→c' i=c i):UpO c' (len+1) len :=
 ⟨fun i hi hl hne=>by rw [hc i (by omega),hc _ (by omega)];exact h i hi (by omega),fun i hi hl hp h0=>by omega⟩
theorem Ord.lower {c c':Nat→Int}{len p:Nat}(h:Ord c len)(hc:∀ i,i<len→i≠p→c' i=c i)(hp:c' p≤c p)(hl:p<len):UpO c' len p :=
 ⟨fun i hi hil hne=>by
  rw [hc i hil hne]
  by_cases e:(i-1) / 2=p
  · have:=h i hi hil;rw [e] at this ⊢;omega
  · rw [hc _ (by omega) e];exact h i hi hil,fun i hi hil hpi h0=>by
  have h1:=h i hi hil;have h2:=h p h0 hl;rw [hpi] at h1;rw [hc i hil (by omega),hc _ (by omega) (by omega)];omega⟩
structure HpS (n:Nat) (r:List Nat) (cs:List Int) (st:List Nat):Prop where
 lc:cs.length=n
 ls:st.length=n
 seat:∀ i k,r[i]?=some k→k<n∧st[k]?=some (i+1)
 none_:∀ k i,st[k]?=some (i+1)→r[i]?=some k
def at_ (r:List Nat)(cs:List Int)(i:Nat):Int:=cs.getD (r.getD i 0) 0
theorem HpS.nodup {n:Nat}{r:List Nat}{cs:List Int}{st:List Nat}(h:HpS n r cs st){i j k:Nat} (hi:r[i]?=some k) (hj:r[j]?=some k):i=j:=by
 have h1:=(h.seat i k hi).2;have h2:=(h.seat j k hj).2;rw [h1] at h2
 injection h2 with h2
 omega
def Qdt (r:List Nat)(i j:Nat):List Nat:=(r.set i (r.getD j 0)).set j (r.getD i 0)
theorem Qcg {α:Type}{l:List α}{i:Nat}{x d:α} (h:l[i]?=some x):l.getD i d=x:=by rw [Ya,h];rfl
theorem Qbl {α:Type}{l:List α}{i:Nat}(d:α)(h:i<l.length):l[i]?=some (l.getD i d):=by rw [Ya,Zg h];rfl
theorem Qdf {r:List Nat}{i j x:Nat}(hi:i<r.length)(hj:j<r.length):(Qdt r i j)[x]?=if x=j then r[i]? else if x=i then r[j]? else r[x]?:=by
 unfold Qdt
 by_cases e:x=j
 · subst e
   rw [Yg (by rw [Yq];exact hj),if_pos rfl,Qbl 0 hi]
 · rw [if_neg e,Yh (fun h=>e h.symm)]
   by_cases e2:x=i
   · subst e2
     rw [Yg hi,if_pos rfl,Qbl 0 hj]
   · rw [if_neg e2,Yh (fun h=>e2 h.symm)]
def Qjg (r st:List Nat)(i j:Nat):List Nat:=(st.set (r.getD j 0) (i+1)).set (r.getD i 0) (j+1)
theorem HpS.swap {n:Nat}{r:List Nat}{cs:List Int}{st:List Nat}(h:HpS n r cs st){i j:Nat}(hi:i<r.length)(hj:j<r.length):HpS n (Qdt r i j) cs (Qjg r st i j):=by
 have ri:=Qbl 0 hi;have rj:=Qbl 0 hj;generalize hki:r.getD i 0=ki at *;generalize hkj:r.getD j 0=kj at *;have si:=h.seat i ki ri;have sj:=h.seat j kj rj
 have sget:∀ x,(Qjg r st i j)[x]?=if x=ki then (if ki<st.length then some (j+1) else none) else if x=kj then (if kj<st.length then some (i+1) else none) else st[x]?:=fun x=>by
  unfold Qjg;rw [hki,hkj]
  by_cases e:x=ki
  · subst e
    rw [if_pos rfl,List.getElem?_set];simp
  · rw [if_neg e,Yh (fun h=>e h.symm)]
    by_cases e2:x=kj
    · subst e2
      rw [if_pos rfl,List.getElem?_set];simp
    · rw [if_neg e2,Yh (fun h=>e2 h.symm)]
 refine ⟨h.lc,by unfold Qjg;rw [Yq,Yq];exact h.ls,fun x k hx=>?_,fun k x hk=>?_⟩
 · rw [Qdf hi hj] at hx
   rw [sget]
   by_cases e:x=j
   · subst e
     rw [if_pos rfl,ri] at hx
     cases hx
     exact ⟨si.1,by rw [if_pos rfl,if_pos (by rw [h.ls];exact si.1)]⟩
   · rw [if_neg e] at hx
     by_cases e2:x=i
     · subst e2
       rw [if_pos rfl,rj] at hx
       cases hx
       have hne:kj≠ki:=fun e3=>e (by rw [e3] at rj;exact h.nodup ri rj)
       exact ⟨sj.1,by rw [if_neg hne,if_pos rfl,if_pos (by rw [h.ls];exact sj.1)]⟩
     · rw [if_neg e2] at hx
       have hs:=h.seat x k hx;exact ⟨hs.1,by rw [if_neg (fun e3=>e2 (by rw [e3] at hx;exact h.nodup hx ri)),if_neg (fun e3=>e (by rw [e3] at hx;exact h.nodup hx rj))];exact hs.2⟩
 · rw [sget] at hk
   rw [Qdf hi hj]
   by_cases e:k=ki
   · subst e
     rw [if_pos rfl,if_pos (by rw [h.ls];exact si.1)] at hk;have:x=j:=by injection hk with hk;omega
     rw [if_pos this];exact ri
   · rw [if_neg e] at hk
     by_cases e2:k=kj
     · subst e2
       rw [if_pos rfl,if_pos (by rw [h.ls];exact sj.1)] at hk;have:x=i:=by injection hk with hk;omega
       by_cases e3:x=j
       · exact absurd (by rw [←this,e3] at ri;rw [ri] at rj;exact (Yv rj).symm) e
       · rw [if_neg e3,if_pos this]
         exact rj
     · rw [if_neg e2] at hk
       have hr:=h.none_ k x hk;rw [if_neg (fun e3=>e2 (by rw [e3,rj] at hr;exact (Yv hr).symm)),if_neg (fun e3=>e (by rw [e3,ri] at hr;exact (Yv hr).symm))];exact hr
theorem Qzm {r:List Nat}{cs:List Int}{i j:Nat}(hi:i<r.length)(hj:j<r.length)(x:Nat)(hx:x<r.length):at_ (Qdt r i j) cs x=Qlo (at_ r cs) i j x:=by
 unfold at_ Qlo;have hg:=Qdf (x:=x) hi hj
 by_cases e:x=j
 · subst e
   rw [if_pos rfl] at hg;rw [Qcg (hg.trans (Qbl 0 hi))]
   by_cases e2:x=i
   · subst e2;simp
   · simp [e2]
 · rw [if_neg e] at hg
   by_cases e2:x=i
   · subst e2
     rw [if_pos rfl] at hg;rw [Qcg (hg.trans (Qbl 0 hj))];simp
   · rw [if_neg e2] at hg
     rw [Qcg (hg.trans (Qbl 0 hx))];simp [e,e2]
theorem Qfb (r:List Nat)(i j:Nat):(Qdt r i j).length=r.length:=by simp [Qdt]
end Go.Proofs.YthoagdpakddbdaaGreatDoor
namespace Go.Proofs.YthoagdpakddbdaaGreatDoor
open Go.RowKit Go.Proofs.Tryz
structure Aft (G:Nat→Prop) (W W':World):Prop where
 kept:Qax G W W'
 size:W.heap.size≤W'.heap.size
 bel:∀ B,(∀ b,b<B→G b)→Below B W W'
theorem Aft.refl (G:Nat→Prop)(W:World):Aft G W W:=⟨Qax.refl _ _,Zn _,fun _ _=>Zr _ _⟩
theorem Aft.trans {G:Nat→Prop}{a b c:World}(h:Aft G a b)(k:Aft G b c):Aft G a c:=⟨h.kept.trans k.kept h.size,Yx h.size k.size,fun B hB=>(h.bel B hB).trans (k.bel B hB)⟩
theorem Aft.drew {G:Nat→Prop}{a b:World}(h:Aft G a b):Aft G a b.drew:=⟨h.kept,h.size,fun B hB=>(h.bel B hB).drew⟩
theorem Aft.set {G:Nat→Prop}{a b:World}{g i:Nat}(h:Aft G a b)(hg:¬G g)(v:Value):Aft G a (b.setCell ⟨g,i,none⟩ v) :=
 ⟨h.kept.trans (Qax.set _ _ _ _ hg) h.size,by simpa [World.setCell] using h.size,fun B hB=>(h.bel B hB).setCell (Nat.le_of_not_lt fun hl=>hg (hB g hl)) v⟩
theorem Aft.below {G:Nat→Prop}{W W':World}(h:Below W.heap.size W W')(hG:∀ b,G b→b<W.heap.size):Aft G W W' :=
 ⟨Qax.below h,h.size,fun B hB=>by
  refine h.mono ?_
  rcases Nat.lt_or_ge W.heap.size B with hl|hl
  · exact absurd (hG _ (hB _ hl)) (by omega)
  · exact hl⟩
def nis (l:List Nat):List Int:=l.map (fun (k:Nat)=>(k:Int))
theorem Qep (l:List Nat):(nis l).length=l.length:=by simp [nis]
theorem Qfs {l:List Nat}{i k:Nat} (h:l[i]?=some k):(nis l)[i]?=some (k:Int):=by simp [nis,h]
theorem Qxe (l:List Nat)(i k:Nat):(nis l).set i (k:Int)=nis (l.set i k):=by simp [nis,List.map_set]
theorem Qod (l m:List Nat):nis (l ++m)=nis l ++nis m:=by simp [nis]
theorem Qmp {l:List Int}{i:Nat}{x:Int} (h:l[i]?=some x):(Qad l)[i]?=some (.int .i64 x):=by simp [Qad,h]
theorem Qvz (l:List Int)(k:Nat)(x:Int):(Qad l).set k (.int .i64 x)=Qad (l.set k x):=by simp [Qad,List.map_set]
theorem Own.putAt {W:World}{B n c k s g o:Nat}{e:TypeId}{xs:List Value} (h:Own W B e s (some ⟨g,o,none⟩) n c xs) (v:Value):Own (W.setCell ⟨g,o+k,none⟩ v) B e s (some ⟨g,o,none⟩) n c (xs.set k v):=by
 refine ⟨by rw [Yq];exact h.1,?_⟩
 rcases h.2 with ⟨h',_⟩|⟨g',cap',cur,h1,h2,h3,h4,h5,h6,h7⟩
 · cases h'
 · cases h1
   refine Or.inr ⟨g,c,cur.setIfInBounds (0+k) v,rfl,h2,(show Blk W g e cur from h3).set_ (0+k) _,h4,h5,by simpa using h6,?_⟩
   rw [Array.toList_setIfInBounds,List.take_set,h7,Yz]
theorem Own.front_ {w:World}{B s n n' c:Nat}{e:TypeId}{A:Option Addr}{xs xs':List Value}(h:Own w B e s A n c xs)(hn:n'≤n) (hx:xs.take (n'*s)=xs'):Own w B e s A n' c xs':=by
 subst hx;refine ⟨by rw [Yw,h.1,Nat.min_eq_left (Nat.mul_le_mul_right s hn)],?_⟩
 rcases h.2 with ⟨h',h0⟩|⟨g',cap',cur,h1,h2,h3,h4,h5,h6,h7⟩
 · cases h'
   obtain rfl:n'=0:=by omega
   exact .inl ⟨rfl,rfl⟩
 · cases h1
   refine .inr ⟨g',c,cur,rfl,h2,h3,by omega,h5,h6,?_⟩;rw [←h7,List.take_take,Nat.min_eq_left (Nat.mul_le_mul_right s hn)]
structure Qba (W:World) (G:Nat→Prop) (g:Nat) (A:Option Addr) (gc gs n m c:Nat) (R:List Nat) (C:List Int) (S:List Nat):Prop where
 blk:Blk W g 269 #[.slice A m c,.slice (some ⟨gc,0,none⟩) n n,.slice (some ⟨gs,0,none⟩) n n]
 row:Own W 0 3 1 A m c (Qad (nis R))
 cs:Blk W gc 2 (Qcv C)
 ss:Blk W gs 3 (Qcv (nis S))
 dA:∀ b,Qaa A=some b→b≠g∧b≠gc∧b≠gs∧¬G b
 dg:g≠gc∧g≠gs∧gc≠gs
 dG:¬G g∧¬G gc∧¬G gs
 lt:∀ b,G b→b<W.heap.size
 lr:R.length=m
 lc:C.length=n
 ls:S.length=n
 n0:n≤16384
section
variable {W W':World} {G:Nat→Prop} {g gc gs n m c:Nat} {A:Option Addr} {R:List Nat} {C:List Int} {S:List Nat}
theorem Qba.drew (h:Qba W G g A gc gs n m c R C S):Qba W.drew G g A gc gs n m c R C S:=⟨h.blk,h.row,h.cs,h.ss,h.dA,h.dg,h.dG,h.lt,h.lr,h.lc,h.ls,h.n0⟩
theorem Qba.setR {gr i k:Nat} (h:Qba W G g (some ⟨gr,0,none⟩) gc gs n m c R C S):Qba (W.setCell ⟨gr,i,none⟩ (.int .i64 (k:Int))) G g (some ⟨gr,0,none⟩) gc gs n m c (R.set i k) C S:=by
 obtain ⟨d1,d2,d3,d4⟩:=h.dA gr rfl;have h1:=h.row.putAt (k:=i) (.int .i64 (k:Int));rw [Yz,Qvz,Qxe] at h1;exact ⟨h.blk.far_ (fun e=>d1 e.symm) _,h1,h.cs.far_ (fun e=>d2 e.symm) _,h.ss.far_ (fun e=>d3 e.symm) _,h.dA,h.dg,h.dG,fun b hb=>by simpa [World.setCell] using h.lt b hb,by rw [Yq];exact h.lr,h.lc,h.ls,h.n0⟩
theorem Qba.setC {i:Nat}{x:Int}(h:Qba W G g A gc gs n m c R C S):Qba (W.setCell ⟨gc,i,none⟩ (.int .i64 x)) G g A gc gs n m c R (C.set i x) S :=
 ⟨h.blk.far_ h.dg.1 _,h.row.far (Qab _ _ _ _) (.inr fun e=>(h.dA gc e).2.1 rfl),h.cs.setI rfl,h.ss.far_ (fun e=>h.dg.2.2 e.symm) _,h.dA,h.dg,h.dG,fun b hb=>by simpa [World.setCell] using h.lt b hb,h.lr,by rw [Yq];exact h.lc,h.ls,h.n0⟩
theorem Qba.setS {i k:Nat}(h:Qba W G g A gc gs n m c R C S):Qba (W.setCell ⟨gs,i,none⟩ (.int .i64 (k:Int))) G g A gc gs n m c R C (S.set i k) :=
 ⟨h.blk.far_ h.dg.2.1 _,h.row.far (Qab _ _ _ _) (.inr fun e=>(h.dA gs e).2.2.1 rfl),h.cs.far_ h.dg.2.2 _,h.ss.setI (Qxe _ _ _),h.dA,h.dg,h.dG,fun b hb=>by simpa [World.setCell] using h.lt b hb,h.lr,h.lc,by rw [Yq];exact h.ls,h.n0⟩
theorem Qba.keep (h:Qba W G g A gc gs n m c R C S)(hz:Below W.heap.size W W'):Qba W' G g A gc gs n m c R C S :=
 ⟨h.blk.below hz h.blk.lt,h.row.below hz,h.cs.below hz h.cs.lt,h.ss.below hz h.ss.lt,h.dA,h.dg,h.dG,fun b hb=>Yu (h.lt b hb) hz.size,h.lr,h.lc,h.ls,h.n0⟩
theorem Qba.more {G':Nat→Prop}(h:Qba W G g A gc gs n m c R C S)(hb:Below W.heap.size W W') (hG:∀ b,G' b→b<W'.heap.size∧(G b∨W.heap.size≤b)):Qba W' G' g A gc gs n m c R C S:=by
 have ho:∀ b,b<W.heap.size→¬G b→¬G' b:=fun b h1 h2 h3=>(hG b h3).2.elim h2 (fun h4=>by omega)
 have k:=h.keep hb;exact ⟨k.blk,k.row,k.cs,k.ss,fun b hb'=>⟨(h.dA b hb').1,(h.dA b hb').2.1,(h.dA b hb').2.2.1,ho b (h.row.lt b hb').2 (h.dA b hb').2.2.2⟩,h.dg,⟨ho _ h.blk.lt h.dG.1,ho _ h.cs.lt h.dG.2.1,ho _ h.ss.lt h.dG.2.2⟩,fun b hb'=>(hG b hb').1,h.lr,h.lc,h.ls,h.n0⟩
theorem Qba.f0 (h:Qba W G g A gc gs n m c R C S):W.cell? ⟨g,0,none⟩=some (.slice A m c):=Zq h.blk
theorem Qba.f1 (h:Qba W G g A gc gs n m c R C S):W.cell? ⟨g,1,none⟩=some (.slice (some ⟨gc,0,none⟩) n n):=Zq h.blk
theorem Qba.f2 (h:Qba W G g A gc gs n m c R C S):W.cell? ⟨g,2,none⟩=some (.slice (some ⟨gs,0,none⟩) n n):=Zq h.blk
theorem Qba.rowAt {gr i k:Nat} (h:Qba W G g (some ⟨gr,0,none⟩) gc gs n m c R C S) (hk:R[i]?=some k):W.cell? ⟨gr,i,none⟩=some (.int .i64 (k:Int)):=by
 obtain ⟨b,o,e,hc⟩:=h.row.rds.2 i _ (Qmp (Qfs hk))
 cases e
 rwa [Yz] at hc
theorem Qba.costAt {i:Nat}{x:Int}(h:Qba W G g A gc gs n m c R C S) (hk:C[i]?=some x):W.cell? ⟨gc,i,none⟩=some (.int .i64 x):=h.cs.cellI hk
theorem Qba.seatAt {i k:Nat}(h:Qba W G g A gc gs n m c R C S) (hk:S[i]?=some k):W.cell? ⟨gs,i,none⟩=some (.int .i64 (k:Int)):=h.ss.cellI (Qfs hk)
theorem Qba.rowBlk (h:Qba W G g A gc gs n m c R C S)(hm:0<m):∃ gr,A=some ⟨gr,0,none⟩∧W.frozen? ⟨gr,0,none⟩=false:=by
 obtain ⟨gr,cur,e,_,hb,_⟩:=h.row.block hm;exact ⟨gr,e,hb.frozen 0⟩
theorem Qba.fzR {gr i:Nat} (h:Qba W G g (some ⟨gr,0,none⟩) gc gs n m c R C S):W.frozen? ⟨gr,i,none⟩=false:=(h.row.warm gr rfl).2 i
theorem Qba.cap (h:Qba W G g A gc gs n m c R C S):m≤c∧c≤9223372036854775807:=⟨h.row.cap,h.row.capMax⟩
end
end Go.Proofs.YthoagdpakddbdaaGreatDoor
