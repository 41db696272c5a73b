/- Qbl of the proof: Bk1, Ik. -/
import Derived.Test.YtkaaakbejnlbgaaGreatDoorD14
set_option maxHeartbeats 1000000
namespace Go.Proofs.YtkaaakbejnlbgaaGreatDoor
open Go.RowKit Go.Proofs.Tryz
theorem infoSpot:(Tryz.prog.info? 303).map (fun i=>(i.zero,i.size,i.bytes))=some (some (.agg #[.int .i64 0,.int .i64 0]),2,16):=Kf
def RwG (W:World)(B:Nat)(A:Oz)(n c:Nat)(xs:List Value)(ys:List Qap):Prop :=
 Own W B 215 2 A n c xs∧ys.length=n∧∀ (j:Nat) (y:Qap),ys[j]?=some y→∃ (A1:Oz) (n1 c1:Nat) (A2:Oz) (n2 c2:Nat),xs[j*2]?=some (Value.slice A1 n1 c1)∧xs[j*2+1]?=some (Value.slice A2 n2 c2)∧RdI W A1 n1 y.1∧RdI W A2 n2 y.2 ∧
  (∀ g,(Qaa A1=some g∨Qaa A2=some g)→g<W.heap.size∧Qaa A≠some g)
theorem RwG.nil (W:World)(B:Nat):RwG W B none 0 0 [] []:=⟨Own.nil _ _ _ _,rfl,fun j l h=>by simp at h⟩
theorem RwG.keep {W W':World}{B n c:Nat}{A:Oz}{xs:List Value}{ys:List Qap}(h:RwG W B A n c xs ys)(hz:W.heap.size≤W'.heap.size) (hk:∀ g,g<W.heap.size→(Qaa A=some g∨Rdf xs g)→W'.heap[g]?=W.heap[g]?):RwG W' B A n c xs ys :=
 ⟨h.1.keep (fun b hb=>hk b (h.1.lt b hb).2 (.inl hb)),h.2.1,fun j y hy=>by
  obtain ⟨A1,n1,c1,A2,n2,c2,h1,h2,h3,h4,h5⟩:=h.2.2 j y hy;exact ⟨A1,n1,c1,A2,n2,c2,h1,h2,h3.keepB (fun b hb=>hk b (h5 b (.inl hb)).1 (.inr ⟨_,A1,n1,c1,h1,hb⟩)),h4.keepB (fun b hb=>hk b (h5 b (.inr hb)).1 (.inr ⟨_,A2,n2,c2,h2,hb⟩)),fun g hg=>⟨Yu (h5 g hg).1 hz,(h5 g hg).2⟩⟩⟩
theorem RwG.push {W w':World}{B n c c' n1 c1 n2 c2:Nat}{A A' A1 A2:Oz}{xs:List Value}{ys:List Qap}{y:Qap}(h:RwG W B A n c xs ys)
 (hown:Own w' B 215 2 A' (n+1) c' (xs ++[.slice A1 n1 c1,.slice A2 n2 c2])) (hg:W.grownBy w' (Qaa A)) (hat:Qaa A'=Qaa A∨Qaa A'=some W.heap.size)
 (hr1:RdI W A1 n1 y.1) (hr2:RdI W A2 n2 y.2) (hne:∀ g,(Qaa A1=some g∨Qaa A2=some g)→g<W.heap.size∧Qaa A≠some g):RwG w' B A' (n+1) c' (xs ++[.slice A1 n1 c1,.slice A2 n2 c2]) (ys ++[y]):=by
 have hxl:xs.length=ys.length*2:=by rw [h.1.1,h.2.1]
 have new:∀ g,(g<W.heap.size∧Qaa A≠some g)→g<w'.heap.size∧Qaa A'≠some g:=fun g hY=>by
  refine ⟨Yu hY.1 hg.size,fun e2=>?_⟩;rcases hat with hat|hat
  {exact hY.2 (by rw [←hat];exact e2)};{rw [hat] at e2;(injection e2 with e2);omega}
 have keep:∀ (Y:Oz) (m:Nat) (t:Iz),RdI W Y m t→(∀ g,Qaa Y=some g→g<W.heap.size∧Qaa A≠some g)→RdI w' Y m t:=fun Y m t hr hY=>hr.keepB (fun b hb=>hg.block b (hY b hb).1 (fun e=>(hY b hb).2 e.symm))
 refine ⟨hown,by simp [h.2.1],fun j y' hl=>?_⟩;rcases Nat.lt_trichotomy j ys.length with hj|hj|hj
 {rw [Yc hj] at hl;obtain ⟨B1,m1,d1,B2,m2,d2,k1,k2,k3,k4,k5⟩:=h.2.2 j y' hl;exact ⟨B1,m1,d1,B2,m2,d2,by rw [Yc Oo];exact k1,by rw [Yc Oo];exact k2,keep _ _ _ k3 (fun g e=>k5 g (.inl e)),keep _ _ _ k4 (fun g e=>k5 g (.inr e)),fun g e=>new g (k5 g e)⟩};{subst hj;rw [Yb (Zn _),Yy] at hl;cases hl;exact ⟨A1,n1,c1,A2,n2,c2,by rw [←hxl,Yb (Zn _),Yy];rfl,by rw [←hxl,Yb Oo,show xs.length+1-xs.length=1 by omega];rfl,keep _ _ _ hr1 (fun g e=>hne g (.inl e)),keep _ _ _ hr2 (fun g e=>hne g (.inr e)),fun g e=>new g (hne g e)⟩};{rw [Yd (by simp;omega)] at hl;cases hl}
theorem RwG.last {W:World}{B n c n1 c1 n2 c2:Nat}{A A1 A2:Oz}{xs:List Value}{ys:List Qap}{y:Qap} (h:RwG W B A n c (xs ++[.slice A1 n1 c1,.slice A2 n2 c2]) (ys ++[y])):RdI W A1 n1 y.1∧RdI W A2 n2 y.2:=by
 have hl:=h.1.1;have hl2:=h.2.1;rw [Yp] at hl hl2;simp only [List.length_cons,List.length_nil] at hl hl2;have hxl:xs.length=ys.length*2:=Oo
 obtain ⟨B1,m1,d1,B2,m2,d2,k1,k2,k3,k4,_⟩:=h.2.2 ys.length y (by rw [Yb (Zn _),Yy];rfl);rw [←hxl,Yb (Zn _),Yy] at k1;rw [←hxl,Yb Oo,show xs.length+1-xs.length=1 by omega] at k2;cases k1;cases k2;exact ⟨k3,k4⟩
theorem Rho {xs:List Value}{R R':Oz}{m d m' d' g:Nat} (h:Rdf (xs ++[.slice R m d,.slice R' m' d']) g):Rdf xs g∨Qaa R=some g∨Qaa R'=some g:=by
 have e:xs ++[.slice R m d,.slice R' m' d']=(xs ++[.slice R m d]) ++[.slice R' m' d']:=Sm
 rw [e] at h;rcases Qss h with h|h
 {(rcases Qss h with h|h);{exact .inl h};{exact .inr (.inl h)}};{exact .inr (.inr h)}
def spC (spots:List (Int×Nat)):List Value:=Qcj (spots.map (fun p=>(p.1,(p.2:Int))))
theorem spC_app (spots:List (Int×Nat)) (f:Int) (t:Nat):spC (spots ++[(f,t)])=spC spots ++[.int .i64 f,.int .i64 (t:Int)]:=by unfold spC;rw [List.map_append,Qlh];rfl
structure KdW (w V:World) (x1 x2 cs:Value) (GA:Oz) (gc:Nat) (xs:List Value) (ys:List Qap) (SPA:Oz) (spc:Nat) (spots:List (Int×Nat)) (cnt:Nat) (f:Nat→Option Nat):Prop where
 bel:Bw w V
 bX:Blk V w.heap.size 215 #[x1,x2]
 bC:Blk V (w.heap.size+1) 37 #[cs]
 bR:Blk V (w.heap.size+1+1) 219 #[.int .i64 0,.slice none 0 0,.nilFunc]
 map:MpI V (w.heap.size+1+1+1) cnt f
 bS:Blk V (w.heap.size+1+1+1+1) 299 #[.slice SPA spots.length spc]
 sp:Own V (w.heap.size+5) 303 2 SPA spots.length spc (spC spots)
 gt:RwG V (w.heap.size+5) GA ys.length gc xs ys
 dj:Dj SPA GA
 d2:∀ g,Rdf xs g→w.heap.size+5≤g∧Qaa SPA≠some g
section
variable {w V V':World} {x1 x2 cs:Value} {GA GA' A1 A2 SPA SPA':Oz} {gc gc' n1 c1 n2 c2 spc spc' cnt cnt':Nat} {xs:List Value} {ys:List Qap} {y:Qap} {spots:List (Int×Nat)} {f f':Nat→Option Nat}
theorem KdW.below (h:KdW w V x1 x2 cs GA gc xs ys SPA spc spots cnt f)(hb:Bw V V'):KdW w V' x1 x2 cs GA gc xs ys SPA spc spots cnt f :=
 ⟨Zb h.bel hb,h.bX.below hb h.bX.lt,h.bC.below hb h.bC.lt,h.bR.below hb h.bR.lt,h.map.below hb,h.bS.below hb h.bS.lt,h.sp.below hb,h.gt.keep hb.size (fun g hg _=>hb.block g hg),h.dj,h.d2⟩
theorem KdW.blk (h:KdW w V x1 x2 cs GA gc xs ys SPA spc spots cnt f){r:Option Nat}(hg:V.grownBy V' r)(hr:∀ g,r=some g→w.heap.size+5≤g):Bw w V'∧Blk V' w.heap.size 215 #[x1,x2]∧Blk V' (w.heap.size+1) 37 #[cs]∧Blk V' (w.heap.size+1+1) 219 #[.int .i64 0,.slice none 0 0,.nilFunc]∧MpI V' (w.heap.size+1+1+1) cnt f∧Blk V' (w.heap.size+1+1+1+1) 299 #[.slice SPA spots.length spc] :=
 ⟨h.bel.grown hg h.bel.size (fun j hj=>by have:=hr j hj;omega),h.bX.grown hg (fun e=>by have:=hr _ e;omega),h.bC.grown hg (fun e=>by have:=hr _ e;omega),h.bR.grown hg (fun e=>by have:=hr _ e;omega),h.map.grown hg (fun e=>by have:=hr _ e;omega),h.bS.grown hg (fun e=>by have:=hr _ e;omega)⟩
theorem KdW.gate (h:KdW w V x1 x2 cs GA gc xs ys SPA spc spots cnt f)(hr1:RdI V A1 n1 y.1)(hr2:RdI V A2 n2 y.2) (hlo:∀ g,(Qaa A1=some g∨Qaa A2=some g)→w.heap.size+5≤g∧g<V.heap.size∧Qaa SPA≠some g∧Qaa GA≠some g)
 (hown:Own V' (w.heap.size+5) 215 2 GA' (ys.length+1) gc' (xs ++[.slice A1 n1 c1,.slice A2 n2 c2])) (hg:V.grownBy V' (Qaa GA)) (hat:Qaa GA'=Qaa GA∨Qaa GA'=some V.heap.size) :
 KdW w V' x1 x2 cs GA' gc' (xs ++[.slice A1 n1 c1,.slice A2 n2 c2]) (ys ++[y]) SPA spc spots cnt f:=by obtain ⟨k1,k2,k3,k4,k5,k6⟩:=h.blk hg (fun g e=>(h.gt.1.lt g e).1);refine ⟨k1,k2,k3,k4,k5,k6,h.sp.far hg h.dj.symm.far,?_,(Dj.next h.dj.symm h.sp hat).symm,fun g e=>?_⟩;{have:=h.gt.push hown hg hat hr1 hr2 (fun g e=>⟨(hlo g e).2.1,(hlo g e).2.2.2⟩);rw [Yp,List.length_singleton];exact this};{(rcases Rho e with e|e);{exact h.d2 g e};{exact ⟨(hlo g e).1,(hlo g e).2.2.1⟩}}
theorem KdW.upd (h:KdW w V x1 x2 cs GA gc xs ys SPA spc spots cnt f) (hm:MpI V' (w.heap.size+1+1+1) cnt' f') (hg:V.grownBy V' (some (w.heap.size+1+1+1))):KdW w V' x1 x2 cs GA gc xs ys SPA spc spots cnt' f' :=
 ⟨h.bel.grown hg h.bel.size (fun j hj=>by cases hj;omega),h.bX.grown hg (fun e=>by injection e;omega),h.bC.grown hg (fun e=>by injection e;omega),h.bR.grown hg (fun e=>by injection e;omega),hm,h.bS.grown hg (fun e=>by injection e;omega),h.sp.far hg (.inr (fun e=>by have:=(h.sp.lt _ e).1;omega)),
  h.gt.keep hg.size (fun g hl e=>hg.block g hl (fun e2=>by
   injection e2 with e2
   rcases e with e|e
   · have:=(h.gt.1.lt g e).1;omega
   · have:=(h.d2 g e).1;omega)),h.dj,h.d2⟩
theorem KdW.spot (h:KdW w V x1 x2 cs GA gc xs ys SPA spc spots cnt f)(fi:Int)(t:Nat) (hown:Own V' (w.heap.size+5) 303 2 SPA' (spots.length+1) spc' (spC spots ++[.int .i64 fi,.int .i64 (t:Int)])) (hg:V.grownBy V' (Qaa SPA)) (hat:Qaa SPA'=Qaa SPA∨Qaa SPA'=some V.heap.size) :
 KdW w (V'.setCell ⟨w.heap.size+1+1+1+1,0,none⟩ (.slice SPA' (spots.length+1) spc')) x1 x2 cs GA gc xs ys SPA' spc' (spots ++[(fi,t)]) cnt f:=by
 obtain ⟨k1,k2,k3,k4,k5,k6⟩:=h.blk hg (fun g e=>(h.sp.lt g e).1);have setk:∀ q,q≠w.heap.size+1+1+1+1→(V'.setCell ⟨w.heap.size+1+1+1+1,0,none⟩ (.slice SPA' (spots.length+1) spc')).heap[q]?=V'.heap[q]?:=fun q hq=>Below.heap_setCell V' _ _ q hq
 have hssz:(V'.setCell ⟨w.heap.size+1+1+1+1,0,none⟩ (.slice SPA' (spots.length+1) spc')).heap.size=V'.heap.size:=by simp [World.setCell]
 have hlt:∀ g,Rdf xs g→g<V.heap.size:=fun g ⟨j,B,m,d,e1,e2⟩=>by
  have hj:=(Zs e1).1;have hxl:=h.gt.1.1;obtain ⟨y,hy⟩:∃ y,ys[j / 2]?=some y:=⟨_,Zg (by have:=h.gt.2.1;omega)⟩;obtain ⟨B1,m1,d1,B2,m2,d2,q1,q2,_,_,q5⟩:=h.gt.2.2 _ y hy;rcases Nat.mod_two_eq_zero_or_one j with hm|hm
  {(have:j / 2*2=j:=Oo);rw [this,e1] at q1;cases q1;exact (q5 g (.inl e2)).1};{(have:j / 2*2+1=j:=Oo);rw [this,e1] at q2;cases q2;exact (q5 g (.inr e2)).1}
 refine ⟨k1.setCell Sn _,(setk _ Oo).trans k2,(setk _ Oo).trans k3,(setk _ Oo).trans k4,k5.set Oo _,?_,?_,?_,Dj.next h.dj h.gt.1 hat,fun g e=>⟨(h.d2 g e).1,fun e2=>?_⟩⟩;{have:=k6.set_ 0 (.slice SPA' (spots.length+1) spc');rw [Yp,List.length_singleton];exact this};{rw [Yp,List.length_singleton,spC_app];exact hown.keep (fun q e=>setk q (by have:=(hown.lt q e).1;omega))};{refine h.gt.keep (by rw [hssz];exact hg.size) (fun g hl e=>(setk g ?_).trans (hg.block g hl (fun e2=>?_)));{(rcases e with e|e);{have:=(h.gt.1.lt g e).1;omega};{have:=(h.d2 g e).1;omega}};{(rcases e with e|e);{(rcases h.dj with d|d|d);{rw [d] at e2;cases e2};{rw [d] at e;cases e};{exact d (e2.symm.trans e.symm)}};{exact (h.d2 g e).2 e2.symm}}};{(rcases hat with hat|hat);{exact (h.d2 g e).2 (by rw [←hat];exact e2)};{rw [hat] at e2;(injection e2 with e2);have:=hlt g e;omega}}
end
theorem Rid (l:List Stp)(s:Stp):Qbb (Qpz (l ++[s]))=Qbb (Qpz l) ++[.int .i64 (s.1:Int),.int .i64 s.2.1,.int .i64 s.2.2]:=by unfold Qpz;rw [List.map_append,Qgb];rfl
def IkS (W:World)(B g n:Nat) (ls:List (List Stp)):Prop :=
 ls.length=n∧g<B∧∃ cs,Blk W g 295 cs∧cs.size=n∧(∀ (v:Nat) (l:List Stp),ls[v]?=some l→∃ A c,cs[v]?=some (.slice A l.length c)∧Own W B 297 3 A l.length c (Qbb (Qpz l))) ∧
  ∀ (v v':Nat) A m c A' m' c',v≠v'→cs[v]?=some (.slice A m c)→cs[v']?=some (.slice A' m' c')→Dj A A'
theorem IkS.start {W:World}{B g n:Nat}(hg:g<B) (h:Blk W g 295 (Qbg (.slice none 0 0) n)):IkS W B g n (List.replicate n []):=by exact Kas
theorem IkS.grown {W W':World}{B g n:Nat}{r:Option Nat} {ls:List (List Stp)} (h:IkS W B g n ls) (hg:W.grownBy W' r) (hr:∀ b,r=some b→b≠g∧b<B):IkS W' B g n ls:=by
 obtain ⟨h1,h2,cs,h3,h4,h5,h6⟩:=h;refine ⟨h1,h2,cs,h3.grown hg (fun e=>(hr g e).1 rfl),h4,fun v l hl=>?_,h6⟩;obtain ⟨A,c,k1,k2⟩:=h5 v l hl;refine ⟨A,c,k1,k2.far hg ?_⟩
 cases hA:Qaa A with
 | none=>exact .inl rfl
 | some b =>refine .inr (fun e=>?_);have h8:=(k2.lt b hA).1;have h9:=(hr b e.symm).2;omega
theorem IkS.below {W W':World}{B g n:Nat} {ls:List (List Stp)} (h:IkS W B g n ls) (hb:Bw W W'):IkS W' B g n ls:=by exact Kbf
theorem IkS.row {W:World}{B g n u:Nat} {ls:List (List Stp)} (h:IkS W B g n ls) (hu:u<n):∃ A c l,ls[u]?=some l∧W.cell? ⟨g,u,none⟩=some (.slice A l.length c)∧W.frozen? ⟨g,u,none⟩=false∧Own W B 297 3 A l.length c (Qbb (Qpz l)):=by exact Kbc
theorem IkS.lt {W:World}{B g n:Nat} {ls:List (List Stp)} (h:IkS W B g n ls):g<W.heap.size:=by obtain ⟨_,_,cs,h3,_⟩:=h;exact h3.lt
theorem IkS.push {W w':World}{B g n u c c':Nat}{A A':Oz} {ls:List (List Stp)} {l:List Stp} {s:Stp} (h:IkS W B g n ls) (hl:ls[u]?=some l) (hc:W.cell? ⟨g,u,none⟩=some (.slice A l.length c))
 (hown:Own w' B 297 3 A' (l.length+1) c' (Qbb (Qpz l) ++[.int .i64 (s.1:Int),.int .i64 s.2.1,.int .i64 s.2.2])) (hg:W.grownBy w' (Qaa A)) (hat:Qaa A'=Qaa A∨Qaa A'=some W.heap.size) :
 IkS (w'.setCell ⟨g,u,none⟩ (.slice A' (l.length+1) c')) B g n (ls.set u (l ++[s])):=by
 obtain ⟨h1,h2,cs,h3,h4,h5,h6⟩:=h;have hu:=(Zs hl).1;have hcs:cs[u]?=some (.slice A l.length c):=by rw [←h3.cell];exact hc
 obtain ⟨A0,c0,k1,hown0⟩:=h5 u l hl;rw [hcs] at k1;cases k1;have hgA:Qaa A≠some g:=hown0.ne h2;have hgA':Qaa A'≠some g:=hown.ne h2;refine ⟨by rw [Yq];exact h1,h2,_,(h3.grown hg hgA).set_ u (.slice A' (l.length+1) c'),by simpa using h4,fun v l' hl'=>?_,fun v v' X m d X' m' d' hne e1 e2=>?_⟩;{by_cases e:u=v;{subst e;rw [Yg hu] at hl';cases hl';refine ⟨A',c',by rw [Array.getElem?_setIfInBounds_self_of_lt Oo,Yp];rfl,?_⟩;rw [Yp,Rid];exact hown.far (Qac _ _ _ _) (.inr hgA')};{rw [Yh e] at hl';obtain ⟨X,d,k1,k2⟩:=h5 v l' hl';refine ⟨X,d,by rw [Array.getElem?_setIfInBounds_ne e];exact k1,(k2.far hg (h6 u v _ _ _ _ _ _ e hcs k1).far).far (Qac _ _ _ _) (.inr (k2.ne h2))⟩}};{have old:∀ v X m d,u≠v→cs[v]?=some (.slice X m d)→Dj A' X:=fun v X m d hv e3=>by{have hv2:=(Array.getElem?_eq_some_iff.1 e3).1;obtain ⟨X0,d0,k1,k2⟩:=h5 v _ (Zg (show v<ls.length by omega));rw [e3] at k1;cases k1;exact (h6 u v _ _ _ _ _ _ hv hcs e3).next k2 hat};by_cases a1:u=v;{subst a1;rw [Array.getElem?_setIfInBounds_self_of_lt Oo] at e1;cases e1;rw [Array.getElem?_setIfInBounds_ne hne] at e2;exact old v' X' m' d' hne e2};{rw [Array.getElem?_setIfInBounds_ne a1] at e1;by_cases a2:u=v';{subst a2;rw [Array.getElem?_setIfInBounds_self_of_lt Oo] at e2;cases e2;exact (old v X m d a1 e1).symm};{rw [Array.getElem?_setIfInBounds_ne a2] at e2;exact h6 v v' X m d X' m' d' hne e1 e2}}}
theorem IkS.cellG {W w':World}{B g n u:Nat}{r:Option Nat} {ls:List (List Stp)} (h:IkS W B g n ls) (hu:u<n) (hg:W.grownBy w' r) (hr:r≠some g):∃ v,w'.cell? ⟨g,u,none⟩=some v∧w'.frozen? ⟨g,u,none⟩=false:=by exact Kbl
theorem IkS.keep {W W':World}{B g n:Nat} {ls:List (List Stp)} (h:IkS W B g n ls) (hk:∀ q,q<W.heap.size→(q=g∨B≤q)→W'.heap[q]?=W.heap[q]?):IkS W' B g n ls:=by
 obtain ⟨h1,h2,cs,h3,h4,h5,h6⟩:=h
 exact ⟨h1,h2,cs,(hk g h3.lt (.inl rfl)).trans h3,h4,fun v l hl=>by
  obtain ⟨A,c,k1,k2⟩:=h5 v l hl;exact ⟨A,c,k1,k2.keep (fun b hb=>hk b (k2.lt b hb).2 (.inr (k2.lt b hb).1))⟩,h6⟩
theorem IkS.stepsAt {W:World}{B g n:Nat} {ls:List (List Stp)} (h:IkS W B g n ls) (hb:∀ l∈ls,l.length≤1000000):Qiw W (some ⟨g,0,none⟩) n (fun p=>ls.getD p []):=fun p hp=>by
 obtain ⟨A,c,l,h1,h2,_,h3⟩:=h.row hp;have hg:ls.getD p []=l:=by rw [Ya,h1];rfl
 rw [show (fun p=>ls.getD p []) p=l from hg];exact ⟨g,0,A,l.length,c,rfl,by rw [Yz];exact h2,h3.rds.rd3,hb l (Zm h1)⟩
