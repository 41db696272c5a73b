/- Qbl of the proof: Ba, At. -/
import Derived.Test.YtkaaakbejnlbgaaGreatDoorD13
import Derived.Laws.EntriesVeiled
set_option maxHeartbeats 2000000
set_option maxRecDepth 100000
namespace Go.Proofs.YtkaaakbejnlbgaaGreatDoor
open Go.RowKit Go.Proofs.Tryz
attribute [local go_sem ↓] Go.wp_at_zero Go.wp_at_succ
theorem Qhz:(Tryz.prog.info? 297).map (fun i=>(i.zero,i.size,i.bytes))=some (some (.agg #[.int .i64 0,.int .i64 0,.int .i64 0]),3,24):=Kf
theorem Qui:(Tryz.prog.info? 295).map (fun i=>(i.zero,i.size,i.bytes))=some (some (.slice none 0 0),1,24):=Kf
def Rdf (xs:List Value)(g:Nat):Prop:=∃ (j:Nat) (A2:Oz) (n2 c2:Nat),xs[j]?=some (.slice A2 n2 c2)∧Qaa A2=some g
def RwS (W:World)(B:Nat)(A:Oz)(n c:Nat)(xs:List Value) (ls:List (List Stp)):Prop :=
 Own W B 295 1 A n c xs∧ls.length=n∧∀ (j:Nat) (l:List Stp),ls[j]?=some l→∃ (A2:Oz) (n2 c2:Nat),xs[j]?=some (Value.slice A2 n2 c2)∧Rd3 W A2 n2 (Qpz l)∧(∀ g,Qaa A2=some g→g<W.heap.size∧Qaa A≠some g)
theorem RwS.nil (W:World)(B:Nat):RwS W B none 0 0 [] []:=⟨Own.nil _ _ _ _,rfl,fun j l h=>by simp at h⟩
theorem RwS.keep {W W':World}{B n c:Nat}{A:Oz}{xs:List Value} {ls:List (List Stp)} (h:RwS W B A n c xs ls) (hz:W.heap.size≤W'.heap.size) (hk:∀ g,(Qaa A=some g∨Rdf xs g)→W'.heap[g]?=W.heap[g]?):RwS W' B A n c xs ls :=
 ⟨h.1.keep (fun b hb=>hk b (.inl hb)),h.2.1,fun j l hl=>by
  obtain ⟨A2,n2,c2,h1,h2,h3⟩:=h.2.2 j l hl;exact ⟨A2,n2,c2,h1,h2.keep (fun b hb=>hk b (.inr ⟨j,A2,n2,c2,h1,hb⟩)),fun g hg=>⟨Yu (h3 g hg).1 hz,(h3 g hg).2⟩⟩⟩
theorem RwS.push {W w':World}{B n c c' m d:Nat}{A A' R:Oz}{xs:List Value} {ls:List (List Stp)} {l:List Stp} (h:RwS W B A n c xs ls)
 (hown:Own w' B 295 1 A' (n+1) c' (xs ++[.slice R m d])) (hg:W.grownBy w' (Qaa A)) (hat:Qaa A'=Qaa A∨Qaa A'=some W.heap.size)
 (hr:Rd3 W R m (Qpz l)) (hne:∀ g,Qaa R=some g→g<W.heap.size∧Qaa A≠some g):RwS w' B A' (n+1) c' (xs ++[.slice R m d]) (ls ++[l]):=by
 have hxl:xs.length=ls.length:=by rw [h.1.1,h.2.1];omega
 have new:∀ Y:Oz,(∀ g,Qaa Y=some g→g<W.heap.size∧Qaa A≠some g)→∀ g,Qaa Y=some g→g<w'.heap.size∧Qaa A'≠some g:=fun Y hY g e=>by{obtain ⟨k1,k2⟩:=hY g e;refine ⟨Yu k1 hg.size,fun e2=>?_⟩;exact Kbh};have keep:∀ (Y:Oz) (m:Nat) (t:List Tri),Rd3 W Y m t→(∀ g,Qaa Y=some g→g<W.heap.size∧Qaa A≠some g)→Rd3 w' Y m t:=fun Y m t hr hY=>hr.keep (fun b hb=>hg.block b (hY b hb).1 (fun e=>(hY b hb).2 e.symm))
 refine ⟨hown,by simp [h.2.1],fun j l' hl=>?_⟩;rcases Nat.lt_trichotomy j ls.length with hj|hj|hj
 {rw [Yc hj] at hl;obtain ⟨A2,n2,c2,k1,k2,k3⟩:=h.2.2 j l' hl;exact ⟨A2,n2,c2,by rw [Yc Oo];exact k1,keep _ _ _ k2 k3,new A2 k3⟩};{subst hj;rw [Yb (Zn _),Yy] at hl;cases hl;exact ⟨R,m,d,by rw [←hxl,Yb (Zn _),Yy];rfl,keep _ _ _ hr hne,new R hne⟩};{rw [Yd (by simp;omega)] at hl;cases hl}
theorem Qss {xs:List Value}{R:Oz}{m d g:Nat} (h:Rdf (xs ++[.slice R m d]) g):Rdf xs g∨Qaa R=some g:=by
 obtain ⟨j,A2,n2,c2,h1,h2⟩:=h;rcases Nat.lt_or_ge j xs.length with hj|hj
 {rw [Yc hj] at h1;exact .inl ⟨j,A2,n2,c2,h1,h2⟩}
 · rw [Yb hj] at h1;obtain ⟨k,hk⟩:∃ k,j-xs.length=k:=⟨_,rfl⟩;rw [hk] at h1
   cases k with
   | zero=>simp at h1;exact .inr (by rw [h1.1];exact h2)
   | succ k=>simp at h1
theorem RwS.stepsAt {W:World}{B n c:Nat}{A:Oz}{xs:List Value} {ls:List (List Stp)} (h:RwS W B A n c xs ls) (hb:∀ l∈ls,l.length≤1000000):Qiw W A n (fun p=>ls.getD p []):=fun p hp=>by
 obtain ⟨l,hl⟩:∃ l,ls[p]?=some l:=⟨_,Zg (by rw [h.2.1];exact hp)⟩;obtain ⟨A2,n2,c2,h1,h2,_⟩:=h.2.2 p l hl;obtain ⟨b,o,e,hc⟩:=h.1.rds.2 p _ h1;have hg:ls.getD p []=l:=by rw [Ya,hl];rfl
 rw [show (fun p=>ls.getD p []) p=l from hg];exact ⟨b,o,A2,n2,c2,e,hc,h2,by have h3:=h2.1;have h4:=hb l (Zm hl);unfold Qpz at h3;rw [List.length_map] at h3;omega⟩
structure ArW (w V:World) (b9 bm:Nat) (x1 x2:Value) (A:Oz) (ca:Nat) (arcs:List Nat) (cnt:Nat) (f:Nat→Option Nat) (SA:Oz) (sc:Nat) (xs:List Value) (Ls:List (List Stp)):Prop where
 bel:Bw w V
 bX:Blk V w.heap.size 215 #[x1,x2]
 bR:Blk V (w.heap.size+1) 219 #[.int .i64 0,.slice none 0 0,.nilFunc]
 bS:Blk V b9 294 #[.slice SA Ls.length sc]
 arcs:Own V (w.heap.size+2) 3 1 A arcs.length ca (Qae (nis arcs))
 map:MpI V bm cnt f
 rows:RwS V (w.heap.size+2) SA Ls.length sc xs Ls
 d1:Qaa A≠some b9∧Qaa A≠some bm∧bm≠b9∧w.heap.size+2≤bm∧w.heap.size+2≤b9
 d2:∀ g,(Qaa SA=some g∨Rdf xs g)→g≠b9∧g≠bm∧Qaa A≠some g∧w.heap.size+2≤g
theorem StO.ext {N:Qak}{x:Qap}{arcs arcs':List Nat}{a:Nat}{Gone:Nat→Prop}{l:List Stp}(h:StO N x arcs a Gone l) (he:∀ (p b:Nat),arcs[p]?=some b→arcs'[p]?=some b):StO N x arcs' a Gone l:=by refine ⟨fun s hs=>?_,h.outC,fun b g t m w=>?_⟩;{obtain ⟨b,h1,h2⟩:=h.snd s hs;exact ⟨b,h1,h2.imp id (fun ⟨k1,k2,k3,k4,k5⟩=>⟨k1,k2,k3,he _ _ k4,k5⟩)⟩};{obtain ⟨s,h1,h2,h3,h4⟩:=h.toC b g t m w;exact ⟨s,h1,h2,he _ _ h3,h4⟩}
theorem ArW.next {w vo w7 V W2 v13:World}{b9 bm ca ca2 cnt cnt2 c' sc c4:Nat}{x1 x2:Value}{A A2 A' A4 SA:Oz}{arcs arcs2:List Nat}{f f2:Nat→Option Nat}{xs:List Value} {Ls:List (List Stp)} {l2:List Stp} (h:ArW w vo b9 bm x1 x2 A ca arcs cnt f SA sc xs Ls) (h7:Bw vo w7)
 (hk:∀ q,q<vo.heap.size→q≠bm→Qaa A≠some q→V.heap[q]?=w7.heap[q]?) (hz:w7.heap.size≤V.heap.size) (hbel:Bw w V) (ha:Own V (w.heap.size+2) 3 1 A2 arcs2.length ca2 (Qae (nis arcs2))) (hm:MpI V bm cnt2 f2)
 (hl:Own V w7.heap.size 297 3 A' l2.length c' (Qbb (Qpz l2))) (hA:∀ q,Qaa A2=some q→¬(q<vo.heap.size∧q≠bm∧Qaa A≠some q)) (hAm:Qaa A2≠some bm) (hAl:Dj A2 A')
 (hW2:W2=V.alloc (.cells #[.slice A' l2.length c'] 295)) (ho:Own v13 (w.heap.size+2) 295 1 A4 (Ls.length+1) c4 (xs ++[.slice A' l2.length c'])) (hg:W2.grownBy v13 (Qaa SA)) (hat:Qaa A4=Qaa SA∨Qaa A4=some W2.heap.size) :
 ArW w (v13.setCell ⟨b9,0,none⟩ (.slice A4 (Ls.length+1) c4)) b9 bm x1 x2 A2 ca2 arcs2 cnt2 f2 A4 c4 (xs ++[.slice A' l2.length c']) (Ls ++[l2]):=by
 obtain ⟨d1,d2,d3,d4,d5⟩:=h.d1;have hs7:=h7.size;have hw0:=h.bel.size;have hsA:=h.bS.lt;have hml:=h.map.lt;have hXl:=h.bX.lt;have hRl:=h.bR.lt;have hall:∀ q,q<vo.heap.size→q≠bm→Qaa A≠some q→V.heap[q]?=vo.heap[q]?:=fun q q1 q2 q3=>(hk q q1 q2 q3).trans (h7.block q q1)
 have hAlt:∀ q,Qaa A=some q→w.heap.size+2≤q∧q<vo.heap.size:=fun q e=>h.arcs.lt q e
 have hSlt:∀ q,Qaa SA=some q∨Rdf xs q→q<vo.heap.size:=fun q e=>by
  rcases e with e|⟨j,B,m,d,e1,e2⟩
  {exact (h.rows.1.lt q e).2};{obtain ⟨l,hl⟩:∃ l,Ls[j]?=some l:=⟨_,Zg (by have k1:=(Zs e1).1;have k2:=h.rows.1.1;omega)⟩;obtain ⟨B2,m2,d2',k1,_,k3⟩:=h.rows.2.2 j l hl;rw [e1] at k1;cases k1;exact (k3 q e2).1}
 have hbW:Bw V W2:=by rw [hW2];exact (Zr _ _).alloc (Zn _) _
 have hWs:W2.heap.size=V.heap.size+1:=by rw [hW2];simp
 have hgs:=hg.size;have hSb:∀ q,Qaa SA=some q→w.heap.size+2≤q:=fun q e=>(h.d2 q (.inl e)).2.2.2
 have hAS:∀ q,Qaa A2=some q→Qaa SA≠some q:=fun q e e2=>hA q e ⟨hSlt q (.inl e2),(h.d2 q (.inl e2)).2.1,(h.d2 q (.inl e2)).2.2.1⟩
 have key:∀ q,q<V.heap.size→Qaa SA≠some q→v13.heap[q]?=V.heap[q]?:=fun q q1 q2=>(hg.block q Oo (fun e=>q2 e.symm)).trans (hbW.block q q1)
 have setk:∀ q,q≠b9→(v13.setCell ⟨b9,0,none⟩ (.slice A4 (Ls.length+1) c4)).heap[q]?=v13.heap[q]?:=fun q hq=>Below.heap_setCell v13 _ _ q hq
 have hssz:(v13.setCell ⟨b9,0,none⟩ (.slice A4 (Ls.length+1) c4)).heap.size=v13.heap.size:=by simp [World.setCell]
 have hr2:RwS W2 (w.heap.size+2) SA Ls.length sc xs Ls:=h.rows.keep Oo (fun q e=>by
  have q1:=hSlt q e;obtain ⟨_,e2,e3,_⟩:=h.d2 q e;exact (hbW.block q Oo).trans (hall q q1 e2 e3))
 have hr13:=hr2.push ho hg hat ((show Rd3 V A' l2.length (Qpz l2) from hl.rds.rd3).keep (fun q e=>hbW.block q (hl.lt q e).2)) (fun q e=>⟨by have:=(hl.lt q e).2;omega,fun e2=>by have:=(hl.lt q e).1;have:=hSlt q (.inl e2);omega⟩)
 have hA4:∀ q,Qaa A4=some q∨Rdf (xs ++[.slice A' l2.length c']) q→q≠b9∧q≠bm∧Qaa A2≠some q∧w.heap.size+2≤q:=fun q e=>by
  have old:Qaa SA=some q∨Rdf xs q→q≠b9∧q≠bm∧Qaa A2≠some q∧w.heap.size+2≤q:=fun e=>by{obtain ⟨e1,e2,e3,e4⟩:=h.d2 q e;exact ⟨e1,e2,fun e5=>hA q e5 ⟨hSlt q e,e2,e3⟩,e4⟩};rcases e with e|e
  {(rcases hat with hat|hat);{exact old (.inl (by rw [←hat];exact e))};{rw [hat] at e;(injection e with e);exact ⟨Oo,Oo,fun e5=>by have:=(ha.lt q e5).2;omega,Oo⟩}};{(rcases Qss e with e|e);{exact old (.inr e)};{have k:=hl.lt q e;refine ⟨Oo,Oo,fun e5=>?_,Oo⟩;(rcases hAl with h1|h1|h1);{rw [h1] at e5;cases e5};{rw [h1] at e;cases e};{exact h1 (e5.trans e.symm)}}}
 have hA9:Qaa A2≠some b9:=fun e=>hA b9 e ⟨hsA,fun e=>d3 e.symm,d1⟩
 refine ⟨?_,?_,?_,?_,?_,?_,?_,⟨hA9,hAm,d3,d4,d5⟩,hA4⟩;{exact ((hbel.trans (hbW.mono Oo)).grown hg Oo (fun j hj=>by have:=hSb j hj;omega)).setCell Sn _};{exact (setk _ Oo).trans ((key _ Oo (fun e=>by have:=hSb _ e;omega)).trans ((hall _ hXl Oo (fun e=>by have:=hAlt _ e;omega)).trans h.bX))};{exact (setk _ Oo).trans ((key _ Oo (fun e=>by have:=hSb _ e;omega)).trans ((hall _ hRl Oo (fun e=>by have:=hAlt _ e;omega)).trans h.bR))};{have h13:Blk v13 b9 294 #[.slice SA Ls.length sc]:=(key _ Oo (fun e=>(h.d2 _ (.inl e)).1 rfl)).trans ((hall _ hsA (fun e=>d3 e.symm) d1).trans h.bS);have:=h13.set_ 0 (.slice A4 (Ls.length+1) c4);rw [Yp,List.length_singleton];exact this};{exact (ha.keep (fun q e=>(key q (ha.lt q e).2 (hAS q e)))).keep (fun q e=>setk q (fun e2=>hA9 (by rw [←e2];exact e)))};{exact (((hm.below hbW).grown hg (fun e=>(h.d2 _ (.inl e)).2.1 rfl))).set (fun e=>d3 e.symm) _};{have:=hr13.keep (W':=v13.setCell ⟨b9,0,none⟩ (.slice A4 (Ls.length+1) c4)) Oo (fun q e=>setk q (hA4 q e).1);rw [Yp,List.length_singleton];exact this}
structure InA (w V0 V:World) (Z:Nat→Prop) (bm:Nat) (A:Oz) (ca:Nat) (arcs:List Nat) (cnt:Nat) (f:Nat→Option Nat) (A':Oz) (c':Nat) (l:List Stp):Prop where
 kept:Qaz Z V0 V
 size:V0.heap.size≤V.heap.size
 bel:Bw w V
 arcs:Own V (w.heap.size+2) 3 1 A arcs.length ca (Qae (nis arcs))
 map:MpI V bm cnt f
 lst:Own V V0.heap.size 297 3 A' l.length c' (Qbb (Qpz l))
 dA:(∀ g,Qaa A=some g→¬Z g)∧Qaa A≠some bm∧Dj A A'
 dm:¬Z bm∧bm<V0.heap.size∧w.heap.size≤bm
 zl:∀ b,Z b→b<V0.heap.size
theorem InA.below {w V0 V V':World}{Z:Nat→Prop}{bm ca cnt c':Nat}{A A':Oz}{arcs:List Nat}{f:Nat→Option Nat}{l:List Stp}(h:InA w V0 V Z bm A ca arcs cnt f A' c' l)(hb:Bw V V'):InA w V0 V' Z bm A ca arcs cnt f A' c' l :=
 ⟨h.kept.trans (Qaz.below hb) h.size,Yx h.size hb.size,Zb h.bel hb,h.arcs.below hb,h.map.below hb,h.lst.below hb,h.dA,h.dm,h.zl⟩
theorem InA.step {w V0 V V':World}{Z:Nat→Prop}{bm ca cnt c' c2:Nat}{A A' A2:Oz}{arcs:List Nat}{f:Nat→Option Nat}{l:List Stp}(h:InA w V0 V Z bm A ca arcs cnt f A' c' l)(s:Stp)(hw:w.heap.size≤V0.heap.size)
 (hown:Own V' V0.heap.size 297 3 A2 (l.length+1) c2 (Qbb (Qpz l) ++[.int .i64 (s.1:Int),.int .i64 s.2.1,.int .i64 s.2.2])) (hg:V.grownBy V' (Qaa A')) (hat:Qaa A2=Qaa A'∨Qaa A2=some V.heap.size) :
 InA w V0 V' Z bm A ca arcs cnt f A2 c2 (l ++[s]):=by
 have hge:∀ g,Qaa A'=some g→V0.heap.size≤g:=fun g e=>(h.lst.lt g e).1
 refine ⟨h.kept.trans (Qaz.grown hg (fun b hb e=>?_)) h.size,Yx h.size hg.size,h.bel.grown hg (Yx hw h.size) (fun j hj=>Yx hw (hge j hj)),h.arcs.far hg h.dA.2.2.symm.far,h.map.grown hg (fun e=>?_),?_,⟨h.dA.1,h.dA.2.1,?_⟩,h.dm,h.zl⟩;{have:=hge b e;have:=h.zl b hb;omega};{have:=hge bm e;have:=h.dm.2.1;omega};{rw [Yp,List.length_singleton];have e:Qbb (Qpz (l ++[s]))=Qbb (Qpz l) ++[.int .i64 (s.1:Int),.int .i64 s.2.1,.int .i64 s.2.2]:=by{unfold Qpz;rw [List.map_append,Qgb];rfl};rw [e];exact hown};{exact (Dj.next h.dA.2.2.symm h.arcs hat).symm}
theorem InA.upd {w V0 V V':World}{Z:Nat→Prop}{bm ca cnt cnt' c':Nat}{A A':Oz}{arcs:List Nat}{f f':Nat→Option Nat}{l:List Stp}(h:InA w V0 V Z bm A ca arcs cnt f A' c' l)(hm:MpI V' bm cnt' f') (hg:V.grownBy V' (some bm)):InA w V0 V' Z bm A ca arcs cnt' f' A' c' l :=
 ⟨h.kept.trans (Qaz.grown hg (fun b hb e=>h.dm.1 (by cases e;exact hb))) h.size,Yx h.size hg.size,h.bel.grown hg (Yx h.dm.2.2 (Nat.le_of_lt h.map.lt)) (fun j hj=>by cases hj;exact h.dm.2.2),h.arcs.far hg (.inr h.dA.2.1),hm,h.lst.far hg (.inr (fun e=>by have:=(h.lst.lt _ e).1;have:=h.dm.2.1;omega)),h.dA,h.dm,h.zl⟩
theorem InA.push {w V0 V V':World}{Z:Nat→Prop}{bm ca cnt c' c2:Nat}{A A' A2:Oz}{arcs:List Nat}{f:Nat→Option Nat}{l:List Stp}(h:InA w V0 V Z bm A ca arcs cnt f A' c' l)(b:Nat)
 (hown:Own V' (w.heap.size+2) 3 1 A2 (arcs.length+1) c2 (Qae (nis arcs) ++[.int .i64 (b:Int)])) (hg:V.grownBy V' (Qaa A)) (hat:Qaa A2=Qaa A∨Qaa A2=some V.heap.size) :
 InA w V0 V' Z bm A2 c2 (arcs ++[b]) cnt f A' c' l:=by refine ⟨h.kept.trans (Qaz.grown hg (fun b hb e=>h.dA.1 b e hb)) h.size,Yx h.size hg.size,h.bel.grown hg h.bel.size (fun j hj=>by have:=(h.arcs.lt j hj).1;omega),?_,h.map.grown hg h.dA.2.1,h.lst.far hg h.dA.2.2.far,⟨fun g e hz=>?_,fun e=>?_,Dj.next h.dA.2.2 h.lst hat⟩,h.dm,h.zl⟩;{rw [Yp,List.length_singleton,Qsh,Qbq];exact hown};{(rcases hat with hat|hat);{exact h.dA.1 g (by rw [←hat];exact e) hz};{rw [hat] at e;(injection e with e);have:=h.zl g hz;have:=h.size;omega}};{(rcases hat with hat|hat);{exact h.dA.2.1 (by rw [←hat];exact e)};{rw [hat] at e;(injection e with e);have:=h.map.lt;omega}}
def ByA (w:World)(N:Qak)(l:Iz)(c:Nat)(x:Qap)(n1 n2:Nat)(e:Ending)(w':World):Prop :=
 ∃ (SA:Oz) (sc c9:Nat) (arcs:List Nat) (L:Nat→List Stp),e=.returned (.agg #[.int .i64 ((arcs.length:Nat):Int),.slice SA n1 sc,.func (.func 184) #[] #[.pointer (some ⟨c9,0,none⟩)]]) ∧
  RdI w' SA n1 (nis (List.range n1))∧Qtl w' 184 #[.pointer (some ⟨c9,0,none⟩)] L arcs.length∧Qwj N l c x arcs L∧Qti L arcs.length n2 4294967296∧(∀ p,arcs.length≤p→L p=[])∧arcs.Nodup∧arcs.length≤16384∧(∀ (i a:Nat),x.1[i]?=some (a:Int)→arcs[i]?=some a)∧n1≤arcs.length∧Bw w w'
theorem Rem (w:World)(g:Nat)(N:Qak)(l:Iz)(c:Nat)(x:Qap)(A1 A2:Oz)(n1 n2 c1 c2:Nat)(hg:Qfg w g N)(hok:Qar N)(hl:l.length=N.vs.length) (hx:(Qaf N.ar l)[c]?=some x) (h1:RdI w A1 n1 x.1) (h2:RdI w A2 n2 x.2) :
 Calls prog 124 #[.pointer (some ⟨g,0,none⟩),.agg #[.slice A1 n1 c1,.slice A2 n2 c2]] w (ByA w N l c x n1 n2):=by
 have hla:=hok.la;obtain ⟨hn1,hn2⟩:=Qcd hx;rw [h1.1] at hn1;rw [h2.1] at hn2;have hmm:=@run_makeMap prog;obtain ⟨arcs0,ha0⟩:∃ arcs0:List Nat,nis arcs0=x.1:=by{refine ⟨x.1.map Int.toNat,?_⟩;unfold nis;rw [List.map_map];refine (List.map_congr_left (g:=id) fun z hz=>?_).trans (List.map_id _);obtain ⟨⟨a,t,e,_⟩,_⟩:=(fun h:z∈Qbn N.ar l∧_=>(⟨Qhm.1 h.1,h.2⟩:_∧_)) ((Qoc hx).1 hz);subst e;simp};have hs1:=Qhg hx;have hs2:=Qhh hx;have hat0:∀ (i a:Nat),arcs0[i]?=some a→x.1[i]?=some (a:Int):=fun i a h=>by rw [←ha0];exact Qez h
 have hl0:arcs0.length=n1:=by rw [←Qeg,ha0];exact h1.1
 have HCL:=Zh (fun V (hV:Bw w V)=>Qkv A1 n1 c1 _ V (h1.below hV).rdsI (Qaq _) Oo)
 have HIN:=Zh (show ∀ a∈arcs0,∃ y,N.ar[a]?=some y∧Qad l y.2.1=c from fun a ha=>by
  obtain ⟨y,k1,_,k3⟩:=(Qef hx).1 (show (a:Int)∈x.1 by rw [←ha0];exact List.mem_map.2 ⟨a,ha,rfl⟩)
  exact ⟨y,k1,k3⟩)
 have HA0:=Zh ha0;have HAT:=Zh hat0;have HX:=Zh hx;have HG:=Zh hg;have HL:=Zh hl;have H1:=Zh h1;have H2:=Zh h2;clear hx hg hl h1 h2 ha0 hat0;go_enter func124,ntmps124
 go_wp2_with fail
 (refine Qab ?_;intro w1 hw1);have hb1:Bw w w1:=by rw [hw1];exact Qag
 have hz1:w1.heap.size=w.heap.size+2:=by rw [hw1];simp
 have hX1:Blk w1 w.heap.size 215 #[.slice A1 n1 c1,.slice A2 n2 c2]:=by rw [hw1];exact Qbi
 have hR1:Blk w1 (w.heap.size+1) 219 #[.int .i64 0,.slice none 0 0,.nilFunc]:=by rw [hw1];exact Qbi
 clear hw1;with_reducible refine (HCL.o w1 hb1).mono ?_
 rintro e w2 ⟨A0,ca0,rfl,ho2,hb2⟩;rw [hz1] at ho2;have hX2:=hX1.below hb2 hX1.lt;have hR2:=hR1.below hb2 hR1.lt;have hbw2:=Zb hb1 hb2;have hz2:=hb2.size;clear hX1 hR1 hb2 hb1;go_wp2_with fail
 (refine Qai ?_;intro w3 hw3);have hb3:Below w2.heap.size w2 w3:=by rw [hw3];exact (Zr _ _).alloc (Zn _) _
 have hm3:MpI w3 w2.heap.size 0 (fun _=>none):=by rw [hw3];exact MpI.new _
 have ho3:=ho2.below hb3;have hX3:=hX2.below hb3 hX2.lt;have hR3:=hR2.below hb3 hR2.lt;have hbw3:=Zb hbw2 hb3;have hne0:Qaa A0≠some w2.heap.size:=fun e=>by have:=(ho2.lt _ e).2;omega
 have hlm:w.heap.size+2≤w2.heap.size:=Oo
 have HNE0:=Zh hne0;have HI0:=Zh (show Qmf N l c (arcs0.take 0) (fun _=>none) from ⟨fun a h=>(by simp at h),fun b p=>by simp⟩);clear hw3 hX2 hR2 hbw2 hb3 ho2 hne0 hz1 hz2
 go_loopw [28] (fun q V=>∃ (i:Nat) (f:Nat→Option Nat),q=.int .i64 i∧i≤n1∧Bw w V∧Blk V w.heap.size 215 #[.slice A1 n1 c1,.slice A2 n2 c2]∧Blk V (w.heap.size+1) 219 #[.int .i64 0,.slice none 0 0,.nilFunc] ∧
  Own V (w.heap.size+2) 3 1 A0 n1 ca0 (Qae x.1)∧MpI V w2.heap.size i f∧Qmf N l c (arcs0.take i) f) (fun q _=>n1-(intOf q).toNat)
 case atStart=>exact ⟨0,_,by go_num,Nat.zero_le _,hbw3,hX3,hR3,ho3,hm3,HI0.o⟩
 case round =>
  clear hbw3 hX3 hR3 ho3 hm3;obtain ⟨i,f,rfl,hin,hb,hX,hR,ho,hm,hI⟩:=hrel;obtain ⟨v4,rfl⟩:=Zx wr;by_cases hlt:i<n1
  · obtain ⟨a,ha⟩:∃ a,arcs0[i]?=some a:=⟨_,Zg Oo⟩;obtain ⟨b,o,hA,hc⟩:=ho.rds.rdI.2 i _ (HAT.o i a ha);obtain ⟨y,hy,hyc⟩:=HIN.o a (Zm ha);have han:=(Zs hy).1
    have hno:f a=none:=by
     cases hf:f a with
     | none=>rfl
     | some p =>have h3:=(hI.map a p).1 hf;rw [List.getElem?_take] at h3;(split at h3);{have:=Qsj hs1 (HAT.o _ _ h3) (HAT.o _ _ ha);omega};{cases h3}
    have hI2:=hI.push hy hyc hno;have htk:arcs0.take i ++[a]=arcs0.take (i+1):=by{rw [Yf Oo,(Zs ha).2]};(rw [Yw,Nat.min_eq_left Oo,htk] at hI2;subst hA;have HI2:=Zh hI2;have HB:=Zh hb;have HXb:=Zh hX;have HR:=Zh hR;have HO:=Zh ho;have i1:0≤(i:Int):=Oo);(have i2:(i:Int)<n1:=Oo);clear hI hI2 hb hX hR ho htk hno hy hyc ha;(go_wp2_with (at_mapUpdate;with_reducible refine Qpk rfl _ _ _ rfl a i rfl hm Oo rfl rfl Oo Oo ?_));intro w5 hm5 hg5;have hlx:=HXb.o.lt;have hb5:Bw w w5:=HB.o.grown hg5 Oo (fun j hj=>by cases hj;omega);have HX5:=Zh (HXb.o.grown hg5 (fun e=>by injection e;omega));have HR5:=Zh (HR.o.grown hg5 (fun e=>by injection e;omega));have HO5:=Zh (HO.o.far hg5 (.inr HNE0.o));have HM5:=Zh hm5;have HB5:=Zh hb5;clear hg5 hm5 hb5 hm;(go_wp2_with fail);go_roundw;(case rel=>exact ⟨i+1,_,by go_num,Oo,HB5.o,HX5.o,HR5.o,HO5.o,HM5.o,HI2.o⟩);case measure=>simp [intOf];omega
  · (obtain rfl:n1=i:=Oo);rw [Ye Oo] at hI;have hmlt:=hm.lt;(go_wp2_with fail);(refine Qai ?_;intro w6 hw6);(have hb6:Below v4.heap.size v4 w6:=by rw [hw6];exact (Zr _ _).alloc (Zn _) _);have hS6:Blk w6 v4.heap.size 294 #[.slice none ([]:List (List Stp)).length 0]:=by rw [hw6];exact Qbi
    have HW6:=Zh (show ArW w w6 v4.heap.size w2.heap.size (.slice A1 n1 c1) (.slice A2 n2 c2) A0 ca0 arcs0 n1 f none 0 [] [] from
     ⟨Zb hb hb6,hX.below hb6 hX.lt,hR.below hb6 hR.lt,hS6,by rw [hl0,HA0.o];exact ho.below hb6,hm.below hb6,RwS.nil _ _,⟨fun e=>by have:=(ho.lt _ e).2;omega,HNE0.o,Oo,hlm,Oo⟩,fun g hg=>by
      rcases hg with hg|⟨j,A2,n2,c2,hg,_⟩
      · cases hg
      · simp at hg⟩)
    have HI6:=Zh hI;obtain ⟨b9,hb9⟩:=Zx v4.heap.size;obtain ⟨bm,hbm⟩:=Zx w2.heap.size;rw [←hb9,←hbm] at HW6;rw [←hb9,←hbm,show n1=arcs0.length from hl0.symm];have HL0:=Zh hl0;clear hw6 hS6 hb6 hb9 hbm hb hX hR ho hI hm hmlt HNE0 HI0 hlm hl0
    go_loopw [5,10] (fun u q V=>∃ (A:Oz) (ca:Nat) (arcs:List Nat) (cnt:Nat) (f:Nat→Option Nat) (SA:Oz) (sc:Nat) (xs:List Value) (Ls:List (List Stp)),u=.slice A arcs.length ca∧q=.int .i64 (Ls.length:Nat)∧Ls.length≤arcs.length∧cnt≤arcs.length ∧
     ArW w V b9 bm (.slice A1 n1 c1) (.slice A2 n2 c2) A ca arcs cnt f SA sc xs Ls∧Qmf N l c arcs f∧(∀ (p a:Nat),arcs0[p]?=some a→arcs[p]?=some a)∧(∀ (p a:Nat) (t:List Stp),arcs[p]?=some a→Ls[p]?=some t→StO N x arcs a (fun _=>True) t)∧(∀ t∈Ls,t.length≤1000000)) (fun _ q _=>N.ar.length-(intOf q).toNat)
    case atStart=>exact ⟨_,_,arcs0,_,_,_,_,_,_,rfl,by go_num,Nat.zero_le _,by rw [HL0.o];exact Zn _,HW6.o,HI6.o,fun p a h=>h,fun p a t _ h=>by simp at h,fun t h=>by cases h⟩
    case round =>
     clear HW6 HI6;obtain ⟨A,ca,arcs,cnt,f,SA,sc,xs,Ls,rfl,rfl,hle,hcn,hW,hI,hpre,hst,hbt⟩:=hrel;obtain ⟨vo,rfl⟩:=Zx wr;have hlen:=hI.len;by_cases hlt:Ls.length<arcs.length
     · obtain ⟨a,ha⟩:∃ a,arcs[Ls.length]?=some a:=⟨_,Zg hlt⟩;(obtain ⟨ab,ao,hA,hca⟩:=hW.arcs.rds.rdI.2 _ _ (Qez ha);subst hA;obtain ⟨y,hy,hyc⟩:=hI.at_ a (Zm ha);have hyo:=hok.arcs y (Zm hy);obtain ⟨v,hv⟩:∃ v:Nat,y.2.1=(v:Int):=⟨y.2.1.toNat,by have:=hyo.g0;omega⟩;have hvn:v<N.vs.length:=by have:=hyo.g1;omega);(have HTO:=Zh (fun V (hV:Bw vo V)=>Qjx g a N y V (HG.o.below (Zb hW.bel hV)) hy);have HOU:=Zh (fun V (hV:Bw vo V)=>Qrr g v N V (HG.o.below (Zb hW.bel hV)) hvn);have HW:=Zh hW;have HI:=Zh hI;have HPR:=Zh hpre;have HST:=Zh hst;have HBT:=Zh hbt;have HY:=Zh hy;have HYC:=Zh hyc;have HA:=Zh ha;obtain ⟨i,hi⟩:=Zx Ls.length;have HI':=Zh hi;rw [←hi] at hlt hle hca ⊢;have i1:0≤(i:Int):=Oo);(have i2:(i:Int)<(arcs.length:Int):=Oo);clear hW hI hpre hst hbt hy hyc ha hi hyo;(go_wp2_with fail);(with_reducible refine (HTO.o vo (Zr _ _)).mono ?_);rintro e w' ⟨rfl,rfl⟩;rw [hv];(go_wp2_with fail);(with_reducible refine (HOU.o vo (Zr _ _)).mono ?_);(rintro e w7 ⟨Ao,no,co,rfl,ho7,hb7⟩;obtain ⟨bs,hbs,hbm'⟩:=Rgy (·.1) N.ar y.2.1;rw [←hv,←hbs] at ho7;have hno:bs.length=no:=by have:=ho7.1;simpa [Qae,nis] using this);(have HBS:=Zh hbs;have HBM:=Zh hbm';have HO7:=Zh ho7;have HB7:=Zh hb7;obtain ⟨Z,hZ⟩:∃ Z:Nat→Prop,Z=fun q=>q<w7.heap.size∧q≠bm∧Qaa (some ⟨ab,ao,none⟩)≠some q:=⟨_,rfl⟩);(have hZ':∀ q,Z q↔q<w7.heap.size∧q≠bm∧Qaa (some ⟨ab,ao,none⟩)≠some q:=fun q=>by rw [hZ]);have HZ:=Zh hZ';have hml:=HW.o.map.lt;have hs7:=hb7.size
       have HN7:=Zh (show InA w w7 w7 Z bm (some ⟨ab,ao,none⟩) ca arcs cnt f none 0 [] from
        ⟨Qaz.refl _ _,Zn _,Zb HW.o.bel hb7,HW.o.arcs.below hb7,HW.o.map.below hb7,Own.nil _ _ _ _,⟨fun q e hq=>((hZ' q).1 hq).2.2 e,HW.o.d1.2.1,.inr (.inl rfl)⟩,⟨fun hq=>((hZ' bm).1 hq).2.1 rfl,Oo,by have:=HW.o.d1.2.2.2.1;omega⟩,fun q hq=>((hZ' q).1 hq).1⟩)
       clear hbs hbm' ho7 hb7 hZ hZ' hml hs7 HTO HOU;(go_wp2_with fail);have hw7:w.heap.size≤w7.heap.size:=HN7.o.bel.size;have hnl:no≤16384:=by{(have h1:bs.length=(idx (·.1) N.ar y.2.1).length:=by rw [←HBS.o,Qeg]);have h2:=Qhi (·.1) N.ar N.ar.length y.2.1;rw [List.take_length] at h2;omega}
       have HEL:=Zh (show ∀ W,Qaz Z w7 W→∀ (i:Nat) (b:Nat),bs[i]?=some b→∃ bo,Ao=some ⟨bo,0,none⟩∧W.cell? ⟨bo,i,none⟩=some (.int .i64 (b:Int)) from fun W hK i b hb=>by
        have hi:=(Zs hb).1;obtain ⟨bo,cur,e,_,hblk,_,_,hcell⟩:=HO7.o.block Oo;refine ⟨bo,e,?_⟩;have hbo:=HO7.o.lt bo (by rw [e];rfl);have h1:W.heap[bo]?=w7.heap[bo]?:=hK bo ((HZ.o bo).2 ⟨hbo.2,fun e2=>by have:=HW.o.map.lt;omega,fun e2=>by have:=(HW.o.arcs.lt _ e2).2;omega⟩) hblk.lt
        have h2:w7.cell? ⟨bo,i,none⟩=some (.int .i64 (b:Int)):=by
         rw [hblk.cell];exact hcell i _ (Qhx (Qez hb))
        rw [World.cell?_of_block (w:=w7) h1];exact h2)
       have HXX:=Zh (show ∀ W,Qaz Z w7 W→W.cell? ⟨w.heap.size,1,none⟩=some (.slice A2 n2 c2) from fun W hK=>by
        have hbX:=HW.o.bX.below HB7.o HW.o.bX.lt;have hz:Z w.heap.size:=(HZ.o _).2 ⟨hbX.lt,fun e=>by have:=HW.o.d1.2.2.2.1;omega,fun e=>by have:=(HW.o.arcs.lt _ e).1;omega⟩;rw [World.cell?_of_block (w:=w7) (hK _ hz hbX.lt),hbX.cell]
        rfl)
       go_loopw [5,12,53] (fun u5 u12 u53 V=>∃ (j:Nat) (A:Oz) (ca:Nat) (arcs2:List Nat) (cnt2:Nat) (f2:Nat→Option Nat) (A':Oz) (c':Nat) (l2:List Stp),u53=.int .i64 j∧j≤no∧u5=.slice A arcs2.length ca∧u12=.slice A' l2.length c'∧cnt2≤arcs2.length∧l2.length≤j ∧
        InA w w7 V Z bm A ca arcs2 cnt2 f2 A' c' l2∧Qmf N l c arcs2 f2∧(∀ (p a:Nat),arcs[p]?=some a→arcs2[p]?=some a)∧StO N x arcs2 a (fun q=>q∈bs.take j) l2) (fun _ _ q _=>no-(intOf q).toNat)
       case atStart=>exact ⟨0,_,_,arcs,_,_,_,_,_,by go_num,Nat.zero_le _,rfl,rfl,hcn,Nat.zero_le _,HN7.o,HI.o,fun p a h=>h,(StO.nil N x arcs a).gone (fun b hb=>by simp at hb)⟩
       case round =>
        clear HN7 HI;obtain ⟨j,A,ca,arcs2,cnt2,f2,A',c',l2,rfl,hjn,rfl,rfl,hcn2,hlj,hN,hI2,hpr2,hS2⟩:=hrel;obtain ⟨v8,rfl⟩:=Zx wr;have hlen2:=hI2.len;by_cases hjlt:j<no
        · obtain ⟨b,hb⟩:∃ b,bs[j]?=some b:=⟨_,Zg Oo⟩;obtain ⟨z,hz,hzy⟩:=HBM.o b (Zm hb);have hbn:=(Zs hz).1;obtain ⟨bo,hAo,hcb⟩:=HEL.o _ hN.kept j b hb;have htk:∀ q,q∈bs.take (j+1)↔q∈bs.take j∨q=b:=fun q=>by{rw [List.take_add_one,hb];simp};(have HTU:=Zh (Qrt g a b N y z v8 (HG.o.below hN.bel) HY.o hz);have HTK:=Zh htk;have HN:=Zh hN;have HI2:=Zh hI2;have HPR2:=Zh hpr2;have HS2:=Zh hS2;have HZZ:=Zh hz;have HZY:=Zh hzy;have k1:0≤(j:Int):=Oo);(have k2:(j:Int)<no:=Oo);have hzo:=hok.arcs z (Zm hz);have hzw:=hzo.w;subst hAo;clear hN hI2 hpr2 hS2 hb hz hzy htk hzo;(go_wp2_with fail);(with_reducible refine HTU.o.mono ?_);rintro e v9 ⟨rfl,hb9⟩;have HN9:=Zh (HN.o.below hb9);clear HTU HN hb9 hcb;have HWE:=Zh (Qft g b N z v9 (HG.o.below HN9.o.bel) HZZ.o);(go_wp2_with fail);(with_reducible refine HWE.o.mono ?_);rintro e w' ⟨rfl,rfl⟩;clear HWE;have hzV:=(Qbw HZZ.o).2.2;have HZV:=Zh hzV;clear hzV;by_cases hinf:Qal N a b=1152921504606846976;{(have hge:1152921504606846976≤Qal N a b:=Oo);have HS':=Zh ((HS2.o.skip (.inl hinf)).gone (G':=fun q=>q∈bs.take (j+1)) (fun q h _=>(HTK.o q).1 h));clear hinf;(go_wp2_with fail);go_roundw;(case rel=>exact ⟨j+1,A,ca,arcs2,cnt2,f2,A',c',l2,by go_num,Oo,rfl,rfl,hcn2,Oo,HN9.o,HI2.o,HPR2.o,HS'.o⟩);case measure=>simp [intOf];omega}
          · have hbd:=(Qcs hok a b).resolve_left hinf;(have HINF:=Zh hinf;have hlt3:Qal N a b<1152921504606846976:=Oo);have HPL:=Zh (Qjw A2 n2 c2 x.2 b v9 (H2.o.below HN9.o.bel) hs2 Oo);have xc:=HXX.o _ HN9.o.kept;clear hinf;(go_wp2_with fail);(with_reducible refine HPL.o.mono ?_);rintro e v10 ⟨rfl,hb10⟩;have HN10:=Zh (HN9.o.below hb10);clear HPL hb10 xc HN9;by_cases hm:(b:Int)∈x.2;{obtain ⟨k,hk,hkx⟩:=Qsm hm;(rw [hk];have hk0:0≤(k:Int):=Oo);obtain ⟨W2,hW2⟩:=Zx (v10.alloc (.cells #[.int .i64 0,.int .i64 (k:Nat),.int .i64 (Qal N a b)] 297));have HNW:=Zh (show InA w w7 W2 Z bm _ _ _ _ _ A' c' l2 from HN10.o.below (by rw [hW2];exact (Zr _ _).alloc (Zn _) _));(have hrdW:Rds W2 3 (some ⟨v10.heap.size,0,none⟩) 1 [.int .i64 0,.int .i64 (k:Nat),.int .i64 (Qal N a b)]:=by rw [hW2];exact (Blk.new v10 297 #[.int .i64 0,.int .i64 (k:Nat),.int .i64 (Qal N a b)]).rds rfl);have hownW:=HNW.o.lst;have hszW:w7.heap.size≤W2.heap.size:=HNW.o.size;have HW2:=Zh hW2;have HS':=Zh ((HS2.o.out hs2 HINF.o hkx).gone (G':=fun q=>q∈bs.take (j+1)) (fun q h _=>(HTK.o q).1 h));clear hW2 hk hkx hm;(go_wp2_with (at_builtin;rw [←HW2.o];with_reducible refine Qam rfl (.tmp 72) (.tmp 76) 295 rfl 297 _ 3 24 Qhz underlying295 rfl Oo rfl rfl hownW hrdW (Qed _ _ _) Oo Oo hszW ?_));intro A3 c3 v6 ho6 hg6 hat6;have HN6:=Zh (HNW.o.step (0,(k:Int),Qal N a b) hw7 ho6 hg6 hat6);clear hownW hrdW hszW ho6 hg6 hat6;(go_wp2_with fail);go_roundw;(case rel=>exact ⟨j+1,A,ca,arcs2,cnt2,f2,A3,c3,_,by go_num,Oo,rfl,by rw [Yp];rfl,hcn2,by rw [Yp,List.length_singleton];omega,HN6.o,HI2.o,HPR2.o,HS'.o⟩);case measure=>simp [intOf];omega}
            · rw [Qdn hm];have HM:=Zh hm;clear hm;by_cases hwi:z.2.2=1152921504606846976;{(have hge:1152921504606846976≤z.2.2:=Oo);have HS':=Zh ((HS2.o.skip (.inr ⟨HM.o,by rw [HZV.o];exact hwi⟩)).gone (G':=fun q=>q∈bs.take (j+1)) (fun q h _=>(HTK.o q).1 h));clear hwi;(go_wp2_with fail);go_roundw;(case rel=>exact ⟨j+1,A,ca,arcs2,cnt2,f2,A',c',l2,by go_num,Oo,rfl,rfl,hcn2,Oo,HN10.o,HI2.o,HPR2.o,HS'.o⟩);case measure=>simp [intOf];omega}
              · have hwb:=(Qei hzw).resolve_left hwi;(have hlt4:z.2.2<1152921504606846976:=Oo);have e1:IntKind.i64.wrap (Qal N a b+z.2.2)=Qal N a b+z.2.2:=IntWalk.i64_in _ Oo;have HWI:=Zh (show wV N b≠1152921504606846976 by rw [HZV.o];exact hwi);have hmap:=HN10.o.map;have hzc:Qad l z.2.1=c:=by{apply Classical.byContradiction;intro hn;exact HM.o ((Qcn HX.o).2 ⟨z,HZZ.o,by rw [HZY.o];exact HYC.o,hn⟩)};have HZC:=Zh hzc;clear hwi hzc
                cases hf:f2 b with
                | some p =>have hp:=(HI2.o.map b p).1 hf;have HS':=Zh ((HS2.o.to HINF.o HM.o HWI.o hp).gone (G':=fun q=>q∈bs.take (j+1)) (fun q h _=>(HTK.o q).1 h));rw [HZV.o] at HS';clear hp;have HNN:=HN10;obtain ⟨W2,hW2⟩:=Zx (v10.alloc (.cells #[.int .i64 (p:Nat),.int .i64 (-1),.int .i64 (Qal N a b+z.2.2)] 297));have HNW:=Zh (show InA w w7 W2 Z bm _ _ _ _ _ _ _ _ from HNN.o.below (by rw [hW2];exact (Zr _ _).alloc (Zn _) _));(have hrdW:Rds W2 3 (some ⟨v10.heap.size,0,none⟩) 1 [.int .i64 (p:Nat),.int .i64 (-1),.int .i64 (Qal N a b+z.2.2)]:=by rw [hW2];exact (Blk.new v10 297 #[.int .i64 (p:Nat),.int .i64 (-1),.int .i64 (Qal N a b+z.2.2)]).rds rfl);have hownW:=HNW.o.lst;have hszW:w7.heap.size≤W2.heap.size:=HNW.o.size;have HW2:=Zh hW2;clear hW2;(go_wp2_with (first|(at_lookup;with_reducible refine Qik rfl _ _ rfl b rfl hmap rfl Oo ?_)|(at_builtin;rw [←HW2.o];with_reducible refine Qam rfl (.tmp 97) (.tmp 103) 295 rfl 297 _ 3 24 Qhz underlying295 rfl Oo rfl rfl hownW hrdW (Qed _ _ _) Oo Oo hszW ?_)));intro A3 c3 v6 ho6 hg6 hat6;have HN6:=Zh (HNW.o.step (p,-1,Qal N a b+z.2.2) hw7 ho6 hg6 hat6);clear hownW hrdW hszW ho6 hg6 hat6;(go_wp2_with fail);go_roundw;(case rel=>exact ⟨j+1,A,ca,arcs2,cnt2,f2,A3,c3,_,by go_num,Oo,rfl,by rw [Yp];rfl,hcn2,by rw [Yp,List.length_singleton];omega,HN6.o,HI2.o,HPR2.o,HS'.o⟩);case measure=>simp [intOf];omega
                | none =>
                 have hI3:=HI2.o.push HZZ.o HZC.o hf;have HI3:=Zh hI3;have HS':=Zh (((HS2.o.more b).to HINF.o HM.o HWI.o (p:=arcs2.length) (by rw [Yb (Zn _),Yy];rfl)).gone (G':=fun q=>q∈bs.take (j+1)) (fun q h _=>(HTK.o q).1 h));rw [HZV.o] at HS'
                 have HPR3:=Zh (show ∀ (p a:Nat),arcs[p]?=some a→(arcs2 ++[b])[p]?=some a from fun p a h=>by
                  have h2:=HPR2.o p a h;rw [Yc (Zs h2).1];exact h2)
                 have hlen3:=hI3.len;rw [Yp,List.length_singleton] at hlen3;clear hI3;(go_wp2_with (first|(at_lookup;with_reducible refine Qik rfl _ _ rfl b rfl hmap rfl Oo ?_)|(at_mapUpdate;with_reducible refine Qpk rfl _ _ _ rfl b arcs2.length rfl hmap Oo rfl rfl Oo Oo ?_)));intro v11 hm11 hg11;have HN11:=Zh (HN10.o.upd hm11 hg11);obtain ⟨W1,hW1⟩:=Zx (v11.alloc (.cells #[.int .i64 (b:Nat)] 3));have HNV:=Zh (show InA w w7 W1 Z bm _ _ _ _ _ _ _ _ from HN11.o.below (by rw [hW1];exact (Zr _ _).alloc (Zn _) _));(have hrdV:Rds W1 1 (some ⟨v11.heap.size,0,none⟩) 1 (Qae [(b:Int)]):=by rw [hW1];exact (Blk.new v11 3 #[.int .i64 (b:Nat)]).rds rfl);(have hownV:=HNV.o.arcs;have hszV:w.heap.size+2≤W1.heap.size:=by have:=HNV.o.size;have:=HW.o.d1.2.2.2.1;have:=HN10.o.dm.2.1;omega);have HW1:=Zh hW1;clear hW1 hm11 hg11 hmap hf;(go_wp2_with (at_builtin;rw [←HW1.o];with_reducible refine Qam rfl (.tmp 93) (.tmp 95) 64 rfl 3 _ 1 8 Qbm underlying64 rfl Oo rfl rfl hownV hrdV (Qaq _) Oo Oo hszV ?_));intro A5 c5 v12 ho12 hg12 hat12;have HNN:=Zh (HNV.o.push b ho12 hg12 hat12);clear hownV hrdV hszV ho12 hg12 hat12;obtain ⟨W2,hW2⟩:=Zx (v12.alloc (.cells #[.int .i64 (arcs2.length:Nat),.int .i64 (-1),.int .i64 (Qal N a b+z.2.2)] 297));have HNW:=Zh (show InA w w7 W2 Z bm _ _ _ _ _ _ _ _ from HNN.o.below (by rw [hW2];exact (Zr _ _).alloc (Zn _) _));(have hrdW:Rds W2 3 (some ⟨v12.heap.size,0,none⟩) 1 [.int .i64 (arcs2.length:Nat),.int .i64 (-1),.int .i64 (Qal N a b+z.2.2)]:=by rw [hW2];exact (Blk.new v12 297 #[.int .i64 (arcs2.length:Nat),.int .i64 (-1),.int .i64 (Qal N a b+z.2.2)]).rds rfl);have hownW:=HNW.o.lst;have hszW:w7.heap.size≤W2.heap.size:=HNW.o.size;have HW2:=Zh hW2;clear hW2;(go_wp2_with (first|(fail)|(at_builtin;rw [←HW2.o];with_reducible refine Qam rfl (.tmp 97) (.tmp 103) 295 rfl 297 _ 3 24 Qhz underlying295 rfl Oo rfl rfl hownW hrdW (Qed _ _ _) Oo Oo hszW ?_)));intro A3 c3 v6 ho6 hg6 hat6;have HN6:=Zh (HNW.o.step (arcs2.length,-1,Qal N a b+z.2.2) hw7 ho6 hg6 hat6);clear hownW hrdW hszW ho6 hg6 hat6;(go_wp2_with fail);go_roundw;(case rel=>exact ⟨j+1,A5,c5,arcs2 ++[b],cnt2+1,_,A3,c3,_,by go_num,Oo,by rw [Yp];rfl,by rw [Yp];rfl,by rw [Yp,List.length_singleton];omega,by rw [Yp,List.length_singleton];omega,HN6.o,HI3.o,HPR3.o,HS'.o⟩);case measure=>simp [intOf];omega
        · (obtain rfl:no=j:=Oo);(have HN:=Zh hN;have HI2:=Zh hI2;have HPR2:=Zh hpr2;have HS2:=Zh hS2;have hW8:=HW.o;have hk8:∀ q,q<vo.heap.size→q≠bm→Qaa (some ⟨ab,ao,none⟩)≠some q→v8.heap[q]?=w7.heap[q]?:=fun q q1 q2 q3=>HN.o.kept q ((HZ.o q).2 ⟨by have:=HB7.o.size;omega,q2,q3⟩) (by have:=HB7.o.size;omega));(have h9lt:=hW8.bS.lt;have hS8:Blk v8 b9 294 #[.slice SA Ls.length sc]:=(hk8 b9 h9lt (fun e=>hW8.d1.2.2.1 e.symm) hW8.d1.1).trans ((HB7.o.block b9 h9lt).trans hW8.bS);rw [←HI'.o] at hS8;have x9:v8.cell? ⟨b9,0,none⟩=some (.slice SA i sc):=Zq hS8;obtain ⟨W2,hW2⟩:=Zx (v8.alloc (.cells #[.slice A' l2.length c'] 295));have hbW:Bw v8 W2:=by rw [hW2];exact (Zr _ _).alloc (Zn _) _);(have hrdW:Rds W2 1 (some ⟨v8.heap.size,0,none⟩) 1 [.slice A' l2.length c']:=by rw [hW2];exact (Blk.new v8 295 #[.slice A' l2.length c']).rds rfl);have hSlt:∀ q,Qaa SA=some q→q<vo.heap.size:=fun q e=>(hW8.rows.1.lt q e).2
          have hownW:Own W2 (w.heap.size+2) 295 1 SA i sc xs:=by
           rw [HI'.o]
           exact ((hW8.rows.1.below HB7.o).keep (fun q e=>by
            have:=hSlt q e;obtain ⟨_,q2,q3,_⟩:=hW8.d2 q (.inl e);exact hk8 q this q2 q3)).below hbW
          (have hszW:w.heap.size+2≤W2.heap.size:=by have:=HN.o.size;have:=hbW.size;have:=HN.o.dm.2.1;have:=hW8.d1.2.2.2.1;omega);(have h9W:v8.heap.size≤W2.heap.size:=hbW.size;have h98:b9<W2.heap.size:=by have:=HN.o.size;have:=HB7.o.size;omega);have hS2':=hS8.below hbW hS8.lt;have HNX:=Zh (show Qaa SA≠some b9 from fun e=>(hW8.d2 b9 (.inl e)).1 rfl);have HW2:=Zh hW2;have HBW:=Zh hbW;have HK8:=Zh hk8;have HS2':=Zh hS2';clear hW2 hbW hS8 hk8 hS2' hI2 hN hpr2 hS2 hSlt hW8;(go_wp2_with (at_builtin;rw [←HW2.o];with_reducible refine Qam rfl (.tmp 106) (.tmp 108) 294 rfl 295 _ 1 24 Qui underlying294 rfl Oo rfl rfl hownW hrdW (Qch _ _ _) Oo Oo hszW ?_));intro A4 c4 v13 ho13 hg13 hat13;have hS13:=HS2'.o.grown hg13 HNX.o;have x9':v13.cell? ⟨b9,0,none⟩=some (.slice SA i sc):=Zq hS13;have z9:=hS13.frozen 0;have HO13:=Zh (show Own v13 (w.heap.size+2) 295 1 A4 (Ls.length+1) c4 (xs ++[.slice A' l2.length c']) by rw [←HI'.o];exact ho13);have HG13:=Zh hg13;have HAT13:=Zh hat13;clear hownW hrdW hszW ho13 hg13 hat13 hS13;(go_wp2_with fail);have HF:=Zh (ArW.next HW.o HB7.o HK8.o HN.o.size HN.o.bel HN.o.arcs HN.o.map HN.o.lst (fun q e h3=>HN.o.dA.1 q e ((HZ.o q).2 ⟨by have:=HB7.o.size;omega,h3.2⟩)) HN.o.dA.2.1 HN.o.dA.2.2 HW2.o HO13.o HG13.o HAT13.o);rw [←HI'.o] at HF;go_roundw;(case rel =>refine ⟨A,ca,arcs2,cnt2,f2,A4,c4,_,Ls ++[l2],rfl,?_,?_,hcn2,HF.o,HI2.o,fun p a h=>HPR2.o p a (HPR.o p a h),fun p q t h1 h2=>?_,fun t ht=>?_⟩;{rw [Yp,List.length_singleton,←HI'.o];push_cast;rfl};{rw [Yp,List.length_singleton,←HI'.o];have:=(Zs (HPR2.o _ _ HA.o)).1;rw [←HI'.o] at this;omega};{(rcases Nat.lt_or_ge p Ls.length with hp|hp);{rw [Yc hp] at h2;have h3:arcs[p]?=some q:=by{obtain ⟨q',hq'⟩:∃ q',arcs[p]?=some q':=⟨_,Zg (by have:=HI'.o;omega)⟩;have:=HPR2.o p q' hq';rw [h1] at this;cases this;exact hq'};exact (HST.o p q t h3 h2).ext HPR2.o};{rw [Yb hp] at h2;have hp0:p-Ls.length=0:=by{have:=(Zs h2).1;simpa using this};rw [hp0] at h2;cases h2;(have hp1:p=Ls.length:=Oo);subst hp1;have h3:=HPR2.o _ _ HA.o;rw [h1] at h3;cases h3;refine HS2.o.gone (fun b _ hb=>?_);rw [Ye Oo];exact Qmw HY.o HBS.o hb}};{(rcases List.mem_append.1 ht with ht|ht);{exact HBT.o t ht};{obtain rfl:=List.mem_singleton.1 ht;omega}});case measure=>simp [intOf];omega
     · (have hll:arcs.length=Ls.length:=Oo);have hn1l:n1≤arcs.length:=by{(rcases Nat.eq_zero_or_pos n1 with h0|h0);{omega};{have h3:=HL0.o;have:=(Zs (hpre (n1-1) _ (Zg Oo))).1;omega}};(rw [←hll];have HW:=Zh hW;have HI:=Zh hI;have HPR:=Zh hpre;have HST:=Zh hst;have HBT:=Zh hbt;have HLL:=Zh hll;have hX0:=hW.bX;have x0:vo.cell? ⟨w.heap.size,0,none⟩=some (.slice A1 n1 c1):=Zq hX0;have ltx:=hX0.lt;have x0a:=fun ob=>Zc ((Zr vo.heap.size vo).alloc (Zn _) ob) (Zn _) x0);clear hW hI hpre hst hbt hll hX0 hlt hle;(go_wp2_with fail);(refine Qai ?_;intro w14 hw14);(have hb14:Bw vo w14:=by rw [hw14];exact (Zr _ _).alloc (Zn _) _);(have hF14:Blk w14 vo.heap.size 219 #[.int .i64 (arcs.length:Nat),.slice none 0 0,.nilFunc]:=by rw [hw14];exact Qbi);clear hw14 x0 x0a;(go_loopw [116] (fun q V=>∃ (i:Nat) (S2:Oz) (sc2:Nat),q=.int .i64 i∧i≤n1∧Bw vo V∧Blk V vo.heap.size 219 #[.int .i64 (arcs.length:Nat),.slice S2 i sc2,.nilFunc]∧Own V (vo.heap.size+1) 3 1 S2 i sc2 (Qae (nis (List.range i)))) (fun q _=>n1-(intOf q).toNat));case atStart=>exact ⟨0,_,_,by go_num,Nat.zero_le _,hb14,hF14,Own.nil _ _ _ _⟩
       case round =>
        clear hb14 hF14;obtain ⟨i,S2,sc2,rfl,hin2,hb,hF,ho⟩:=hrel;obtain ⟨v,rfl⟩:=Zx wr;(by_cases hlt:i<n1);{obtain ⟨W2,hW2⟩:=Zx (v.alloc (.cells #[.int .i64 (i:Nat)] 3));(have hbW:Bw v W2:=by rw [hW2];exact (Zr _ _).alloc (Zn _) _);(have hrdW:Rds W2 1 (some ⟨v.heap.size,0,none⟩) 1 (Qae [(i:Int)]):=by rw [hW2];exact (Blk.new v 3 #[.int .i64 (i:Nat)]).rds rfl);(have hownW:=ho.below hbW;have hvs:=hF.lt;have hszW:vo.heap.size+1≤W2.heap.size:=by have:=hbW.size;omega);(have f1:v.cell? ⟨vo.heap.size,1,none⟩=some (.slice S2 i sc2):=Zq hF;have HF:=Zh (hF.below hbW hF.lt);have HB:=Zh (Zb hb hbW);have HW2:=Zh hW2;have j1:0≤(i:Int):=Oo);(have j2:(i:Int)<n1:=Oo);clear hW2 hbW hb hF ho;(go_wp2_with (at_builtin;rw [←HW2.o];with_reducible refine Qam rfl (.tmp 120) (.tmp 122) 64 rfl 3 _ 1 8 Qbm underlying64 rfl Oo rfl rfl hownW hrdW (Qaq _) Oo Oo hszW ?_));intro A4 c4 v13 ho13 hg13 hat13;have hF13:=HF.o.grown hg13 (fun e=>by have:=(hownW.lt _ e).1;omega);have hB13:=HB.o.grown hg13 (by have:=HB.o.size;omega) (fun j hj=>by have:=(hownW.lt j hj).1;omega);have f1':v13.cell? ⟨vo.heap.size,1,none⟩=some (.slice S2 i sc2):=Zq hF13;have z1:=hF13.frozen 1;have HF2:=Zh (hF13.set_ 1 (.slice A4 (i+1) c4));have HO2:=Zh (ho13.far (Qac v13 vo.heap.size 1 (.slice A4 (i+1) c4)) (.inr (fun e=>by have:=(ho13.lt _ e).1;omega)));have HB2:=Zh (Zi (b:=vo.heap.size) (o:=1) (u:=.slice A4 (i+1) c4) hB13 (Zn _));clear hownW hrdW hszW ho13 hg13 hat13 hF13 hB13;(go_wp2_with fail);go_roundw;(case rel=>exact ⟨i+1,A4,c4,by go_num,Oo,HB2.o,HF2.o,by rw [List.range_succ,Qsh,Qbq];exact HO2.o⟩);case measure=>simp [intOf];omega}
        · (obtain rfl:n1=i:=Oo);(have f0:v.cell? ⟨vo.heap.size,0,none⟩=some (.int .i64 (arcs.length:Nat)):=Zq hF;have f1:v.cell? ⟨vo.heap.size,1,none⟩=some (.slice S2 n1 sc2):=Zq hF;have f2:v.cell? ⟨vo.heap.size,2,none⟩=some .nilFunc:=Zq hF;have z2:=hF.frozen 2;have hF2:Blk (v.setCell ⟨vo.heap.size,2,none⟩ (.func (.func 184) #[] #[.pointer (some ⟨b9,0,none⟩)])) vo.heap.size 219 #[.int .i64 (arcs.length:Nat),.slice S2 n1 sc2,.func (.func 184) #[] #[.pointer (some ⟨b9,0,none⟩)]]:=hF.set_ 2 _;have hbv:Bw vo (v.setCell ⟨vo.heap.size,2,none⟩ (.func (.func 184) #[] #[.pointer (some ⟨b9,0,none⟩)])):=Zi hb (Zn _);have g0:(v.setCell ⟨vo.heap.size,2,none⟩ (.func (.func 184) #[] #[.pointer (some ⟨b9,0,none⟩)])).cell? ⟨vo.heap.size,0,none⟩=some (.int .i64 (arcs.length:Nat)):=Zq hF2;have g1:(v.setCell ⟨vo.heap.size,2,none⟩ (.func (.func 184) #[] #[.pointer (some ⟨b9,0,none⟩)])).cell? ⟨vo.heap.size,1,none⟩=some (.slice S2 n1 sc2):=Zq hF2;have g2:(v.setCell ⟨vo.heap.size,2,none⟩ (.func (.func 184) #[] #[.pointer (some ⟨b9,0,none⟩)])).cell? ⟨vo.heap.size,2,none⟩=some (.func (.func 184) #[] #[.pointer (some ⟨b9,0,none⟩)]):=Zq hF2;have hR2:=HW.o.bR.below hbv HW.o.bR.lt;have r0:(v.setCell ⟨vo.heap.size,2,none⟩ (.func (.func 184) #[] #[.pointer (some ⟨b9,0,none⟩)])).cell? ⟨w.heap.size+1,0,none⟩=some (.int .i64 0):=Zq hR2;have r1:(v.setCell ⟨vo.heap.size,2,none⟩ (.func (.func 184) #[] #[.pointer (some ⟨b9,0,none⟩)])).cell? ⟨w.heap.size+1,1,none⟩=some (.slice none 0 0):=Zq hR2;have r2:(v.setCell ⟨vo.heap.size,2,none⟩ (.func (.func 184) #[] #[.pointer (some ⟨b9,0,none⟩)])).cell? ⟨w.heap.size+1,2,none⟩=some .nilFunc:=Zq hR2;have rf:=fun o=>hR2.frozen o);have HF:=Zh hF;have HO:=Zh ho;have HB:=Zh hb;have HR2:=Zh hR2;have HBV:=Zh hbv;clear hF hF2 ho hb hR2 hbv;(go_wp2_with fail);(refine Qce ?_;intro W hW;have hBR:Blk W (w.heap.size+1) 219 #[.int .i64 (arcs.length:Nat),.slice S2 n1 sc2,.func (.func 184) #[] #[.pointer (some ⟨b9,0,none⟩)]]:=by rw [hW];exact ((HR2.o.set_ 0 _).set_ 1 _).set_ 2 _);have hbW:Bw w W:=by{rw [hW];exact Zi (Zi (Zi (Zb HW.o.bel HBV.o) Oo) Oo) Oo};have hk:∀ q,q≠vo.heap.size→q≠w.heap.size+1→W.heap[q]?=v.heap[q]?:=fun q q1 q2=>by{exact Kcq};(have hWs:v.heap.size≤W.heap.size:=by rw [hW];simp [World.setCell]);have c0:W.cell? ⟨w.heap.size+1,0,none⟩=some (.int .i64 (arcs.length:Nat)):=Zq hBR;have c1':W.cell? ⟨w.heap.size+1,1,none⟩=some (.slice S2 n1 sc2):=Zq hBR;have c2':W.cell? ⟨w.heap.size+1,2,none⟩=some (.func (.func 184) #[] #[.pointer (some ⟨b9,0,none⟩)]):=Zq hBR;clear hW;have hvs:=HB.o.size;have hrlt:=HW.o.bR.lt
          have hRw:RwS W (w.heap.size+2) SA Ls.length sc xs Ls:=HW.o.rows.keep Oo (fun q e=>by
           have h1:q<vo.heap.size:=by
            rcases e with e|⟨j,B,m,d,e1,e2⟩
            · exact (HW.o.rows.1.lt q e).2
            · obtain ⟨t,ht⟩:∃ t,Ls[j]?=some t:=⟨_,Zg (by have k1:=(Zs e1).1;have k2:=HW.o.rows.1.1;omega)⟩
              obtain ⟨B2,m2,d2',k1,_,k3⟩:=HW.o.rows.2.2 j t ht;rw [e1] at k1
              cases k1
              exact (k3 q e2).1
           have h2:=(HW.o.d2 q e).2.2.2;exact (hk q Oo Oo).trans (HB.o.block q h1))
          have hd1:=HW.o.d1;have hs9:=HW.o.bS.lt;have h9:Blk W b9 294 #[.slice SA Ls.length sc]:=(hk b9 Oo Oo).trans ((HB.o.block b9 hs9).trans HW.o.bS);have hS2:RdI W S2 n1 (nis (List.range n1)):=(HO.o.keep (fun q e=>hk q (by have:=(HO.o.lt q e).1;omega) (by have:=(HO.o.lt q e).1;omega))).rds.rdI;have hFA:Qwj N l c x arcs (fun p=>Ls.getD p []):=Qwj.of HI.o HLL.o.symm HST.o;have hSt:=hRw.stepsAt HBT.o;rw [←HLL.o] at hSt h9;have hNx:=Qxy W b9 arcs.length sc SA (fun p=>Ls.getD p []) (Zq h9) hSt;have hFl:=hFA.fld hok;rw [H2.o.1] at hFl;refine bodyPost_ret (v:=.agg #[.int .i64 (arcs.length:Nat),.slice S2 n1 sc2,.func (.func 184) #[] #[.pointer (some ⟨b9,0,none⟩)]]) (by simp [results,results124,go_sem,c0,c1',c2']) rfl ?_;refine ⟨S2,sc2,b9,arcs,fun p=>Ls.getD p [],rfl,hS2,hNx,hFA,hFl,fun p hp=>?_,HI.o.nodup,Yx HI.o.len hla,fun i a h=>?_,hn1l,hbW⟩;{(show Ls.getD p []=[]);rw [Ya,Yd (by rw [←HLL.o];exact hp)];rfl};{rw [←HA0.o] at h;have hi:=(Zs h).1;rw [Qeg] at hi;obtain ⟨a',ha'⟩:∃ a',arcs0[i]?=some a':=⟨_,Zg hi⟩;rw [Qez ha'] at h;have:a'=a:=by{have:=Yv h;omega};subst this;exact HPR.o i a' ha'}
theorem at_ok (o i c a b:Nat)(ar:List Tri) (ls:Lz) (l:Iz) (x:Qap) (w:World) (h:Qjm w o ar ls) (hl:ls[i]?=some l) (hx:(Qaf ar l)[c]?=some x) (ha:a<x.1.length) (hb:b<x.2.length) (hL:ls.length≤1000000) (hS:Qcy (Qah ar ls)≤1000000000000) :
 Calls prog 188 #[.pointer (some ⟨o,0,none⟩),.int .i64 ((i:Int)+1),.int .i64 c,.int .i64 a,.int .i64 b] w fun e w'=>e=.returned (.int .i64 ((Qim (Qah ar ls) (Qaf ar l) i c x a b:Nat):Int))∧Bw w w':=by
 obtain ⟨z,hz⟩:=Zx (Qim (Qah ar ls) (Qaf ar l) i c x a b);have hrow:=Qdb (ar:=ar) hl;have z3:=Qmn hrow hx ha hb;have z4:=Qkk (Qah ar ls) (i+1);have hcM:c<(Qay l).toNat:=by rw [←Qau ar l];exact (Zs hx).1
 rw [←hz] at z3 ⊢;have HH:=Zh (Qya o i c _ ar ls l w h hl hL rfl hcM);obtain ⟨Q,F,T,G,S,L,m,cq,cf,ct,cg,cs,h⟩:=h;have h4:=h.n4;have h3:=h.n3;have hiL:i<L:=by rw [←h.part.1];exact (Zs hl).1
 have hLL:L≤1000000:=by rw [←h.part.1];exact hL
 obtain ⟨row,gb,go_,Ag,ng,cA,hrowg,rfl,hcg,hrg,_⟩:=h.gates.at_ hiL;rw [hrow] at hrowg;cases hrowg;have hcng:c<ng:=by rw [←hrg.1];exact (Zs hx).1
 obtain ⟨x',cb,co,A1,n1,c1,A2,n2,c2,hx',rfl,hc1,hr1,hc2,hr2,hc21⟩:=hrg.at_ (c:=c) hcng;rw [hx] at hx';cases hx';have hn1:x.1.length=n1:=hr1.1;have hn2:x.2.length=n2:=hr2.1;obtain ⟨sb,so,Ar,n,c',lr,rfl,elr,hrc,hrr,hrn⟩:=h.starts.at_ hiL;rw [Qvr hrow] at elr;cases elr;have hnM:n=(Qay l).toNat:=by rw [←hrr.1,Qfz,Qau]
 have hcn:c<n:=Oo
 obtain ⟨rb,ro,y0,rfl,ey0,hy0⟩:=hrr.at_ hcn;rw [Qvs (by rw [Qau];exact hcM)] at ey0;obtain ⟨s,hs⟩:=Zx (Qcy ((Qah ar ls).take i)+Qfe ((Qaf ar l).take c));rw [←hs] at ey0;cases ey0;have hzd:z=s+(a*n2+b):=by rw [hz,hs,←hn2];rfl
 obtain ⟨p,hp⟩:=Zx (a*n2);rw [←hp] at hzd;have m1:(a:Int)*n2=p:=by rw [hp];simp
 have wp_:IntKind.i64.wrap (p:Int)=(p:Int):=IntWalk.i64_in _ Oo;obtain ⟨t,ht⟩:=Zx (s+p);have m2:(s:Int)+p=t:=Oo
 have wt:IntKind.i64.wrap (t:Int)=(t:Int):=IntWalk.i64_in _ Oo;have m3:(t:Int)+b=z:=Oo
 have m3':(b:Int)+t=z:=Oo
 have wz:IntKind.i64.wrap (z:Int)=(z:Int):=IntWalk.i64_in _ Oo;have wi:IntKind.i64.wrap (i:Int)=(i:Int):=IntWalk.i64_in _ Oo;have i1:0≤(i:Int):=Oo
 have i2:(i:Int)<L:=Oo
 have i5:(i:Int)+1-1=i:=Oo
 have i6:0≤(c:Int):=Oo
 have i7:(c:Int)<ng:=Oo
 have i8:(c:Int)<n:=Oo
 have i9:¬((a:Int)<0):=Oo
 have i10:¬((n1:Int)≤a):=Oo
 have i11:¬((b:Int)<0):=Oo
 have i12:¬((n2:Int)≤b):=Oo
 have ho:o<w.heap.size:=World.block_lt_of_cell? _ _ h3
 clear h hl hrow hx ha hb hL hS hz z3 z4 hrg hr1 hr2 hc21 hn1 hn2 hrr hs hzd hp ht hnM hcM hrn;go_enter func188,ntmps188
 go_wp2_with fail
 with_reducible refine HH.o.mono ?_
 rintro e w' ⟨rfl,rfl⟩;go_wp2_with fail
 (refine Qai ?_;intro W hW);have hb1:Bw w W:=by rw [hW];exact Qag
 have hX:Blk W w.heap.size 215 #[.slice A1 n1 c1,.slice A2 n2 c2]:=by rw [hW];exact Qbi
 clear hW;have g3:=Zc hb1 (Zn _) h3;have g4:=Zc hb1 (Zn _) h4;have gr:=Zc hb1 (Zn _) hrc;have gy:=Zc hb1 (Zn _) hy0;have x0:=hX.cell 0;have x1:=hX.cell 1;simp only [Yo,Yn,List.getElem?_cons_succ] at x0 x1;clear hX;go_wp2_with fail
 go_quiet (fail)
 go_wp2_with fail
 go_ret;exact ⟨rfl,Qbd hb1 _⟩
theorem at_none (o i c a b:Nat)(ar:List Tri) (ls:Lz) (l:Iz) (x:Qap) (w:World) (h:Qjm w o ar ls) (hl:ls[i]?=some l) (hx:(Qaf ar l)[c]?=some x) (ha:a<x.1.length) (hb:x.2.length≤b) (hL:ls.length≤1000000) :
 Calls prog 188 #[.pointer (some ⟨o,0,none⟩),.int .i64 ((i:Int)+1),.int .i64 c,.int .i64 a,.int .i64 b] w fun e w'=>e=.returned (.int .i64 (-1))∧Bw w w':=by
 have hrow:=Qdb (ar:=ar) hl;have hcM:c<(Qay l).toNat:=by rw [←Qau ar l];exact (Zs hx).1
 have HH:=Zh (Qya o i c _ ar ls l w h hl hL rfl hcM);obtain ⟨Q,F,T,G,S,L,m,cq,cf,ct,cg,cs,h⟩:=h;have h3:=h.n3;have hiL:i<L:=by rw [←h.part.1];exact (Zs hl).1
 have hLL:L≤1000000:=by rw [←h.part.1];exact hL
 obtain ⟨row,gb,go_,Ag,ng,cA,hrowg,rfl,hcg,hrg,_⟩:=h.gates.at_ hiL;rw [hrow] at hrowg;cases hrowg;have hcng:c<ng:=by rw [←hrg.1];exact (Zs hx).1
 obtain ⟨x',cb,co,A1,n1,c1,A2,n2,c2,hx',rfl,hc1,hr1,hc2,hr2,hc21⟩:=hrg.at_ (c:=c) hcng;rw [hx] at hx';cases hx';have hn1:x.1.length=n1:=hr1.1;have hn2:x.2.length=n2:=hr2.1;have i1:0≤(i:Int):=Oo
 have i2:(i:Int)<L:=Oo
 have i5:(i:Int)+1-1=i:=Oo
 have i6:0≤(c:Int):=Oo
 have i7:(c:Int)<ng:=Oo
 have i9:¬((a:Int)<0):=Oo
 have i10:¬((n1:Int)≤a):=Oo
 have i11:¬((b:Int)<0):=Oo
 have i12:((n2:Int)≤b):=Oo
 have ho:o<w.heap.size:=World.block_lt_of_cell? _ _ h3
 clear h hl hrow hx ha hb hL hrg hr1 hr2 hc21 hn1 hn2 hcM;go_enter func188,ntmps188
 go_wp2_with fail
 with_reducible refine HH.o.mono ?_
 rintro e w' ⟨rfl,rfl⟩;exact Kck
