/- Parts of the proof: RoT. -/
import Derived.Test.YteaoiabikjnkeaaGreatDoorR1
import Derived.Test.YteaoiabikjnkeaaGreatDoorR5
import Derived.Test.YteaoiabikjnkeaaGreatDoorR12
import Derived.Test.YteaoiabikjnkeaaGreatDoorR24
import Derived.Test.YteaoiabikjnkeaaGreatDoorR26
namespace Go.Proofs.YteaoiabikjnkeaaGreatDoor
open Go.RowKit Go.Proofs.Tryz
def GG (B:Nat)(V:World)(A1 A2:Option Addr):Nat→Prop:=fun b=>B≤b∧b<V.heap.size∧Qab A1≠some b∧Qab A2≠some b
def RwR (V:World)(G:Nat→Prop)(xs:List Value) (ls:List (List Int)):Prop:=∀ (j:Nat) (l:List Int),ls[j]?=some l→∃ (R:Option Addr) (d:Nat),xs[j]?=some (.slice R l.length d)∧RdI (msk V G) R l.length l∧l.length≤d∧d≤9223372036854775807
theorem RwR.le {V V':World}{G G':Nat→Prop}{xs:List Value} {ls:List (List Int)} (h:RwR V G xs ls) (hl:Le (msk V G) (msk V' G')):RwR V' G' xs ls:=fun j l hj=>by
 obtain ⟨R,d,h1,h2,h3⟩:=h j l hj;exact ⟨R,d,h1,h2.le hl,h3⟩
structure Tw (t1 t2:TypeId) (B:Nat) (V:World) (A1:Option Addr) (c1:Nat) (x1:List Value) (l1:List (List Int)) (A2:Option Addr) (c2:Nat) (x2:List Value) (l2:List (List Int)):Prop where
 o1:Own V B t1 1 A1 l1.length c1 x1
 o2:Own V B t2 1 A2 l2.length c2 x2
 r1:RwR V (GG B V A1 A2) x1 l1
 r2:RwR V (GG B V A1 A2) x2 l2
 dj:∀ g,Qab A1=some g→Qab A2≠some g
section
variable {t1 t2:TypeId} {B:Nat} {V V':World} {A1 A2:Option Addr} {c1 c2:Nat} {x1 x2:List Value} {l1 l2:List (List Int)}
theorem Tw.nil (t1 t2:TypeId)(B:Nat)(V:World):Tw t1 t2 B V none 0 [] [] none 0 [] []:=⟨Own.nil _ _ _ _,Own.nil _ _ _ _,fun j l h=>by simp at h,fun j l h=>by simp at h,fun g e=>by cases e⟩
theorem Tw.swap (h:Tw t1 t2 B V A1 c1 x1 l1 A2 c2 x2 l2):Tw t2 t1 B V A2 c2 x2 l2 A1 c1 x1 l1 :=
 have hm:Le (msk V (GG B V A1 A2)) (msk V (GG B V A2 A1)):=Qbe (fun _ hb=>⟨hb.1,hb.2.1,hb.2.2.2,hb.2.2.1⟩)
 ⟨h.o2,h.o1,h.r2.le hm,h.r1.le hm,fun g e e2=>h.dj g e2 e⟩
theorem Tw.below (h:Tw t1 t2 B V A1 c1 x1 l1 A2 c2 x2 l2)(hb:Below V.heap.size V V'):Tw t1 t2 B V' A1 c1 x1 l1 A2 c2 x2 l2 :=
 have hm:Le (msk V (GG B V A1 A2)) (msk V' (GG B V' A1 A2)):=(Qbf.msk (Qbf.below hb)).trans (Qbe (fun _ hb'=>⟨hb'.1,Nat.lt_of_lt_of_le hb'.2.1 hb.size,hb'.2.2⟩))
 ⟨h.o1.below hb,h.o2.below hb,h.r1.le hm,h.r2.le hm,h.dj⟩
theorem Tw.set (h:Tw t1 t2 B V A1 c1 x1 l1 A2 c2 x2 l2){b:Nat}(hb:b<B)(o:Nat)(v:Value):Tw t1 t2 B (V.setCell ⟨b,o,none⟩ v) A1 c1 x1 l1 A2 c2 x2 l2:=by
 have hg:=Qaa V b o v;have hm:Le (msk V (GG B V A1 A2)) (msk (V.setCell ⟨b,o,none⟩ v) (GG B (V.setCell ⟨b,o,none⟩ v) A1 A2)):=(Qbf.msk (Qbf.set V b o v (fun e=>by have:=e.1;omega))).trans (Qbe (fun q hq=>⟨hq.1,Nat.lt_of_lt_of_le hq.2.1 hg.size,hq.2.2⟩));exact ⟨h.o1.far hg (.inr (fun e=>by have:=(h.o1.lt b e).1;omega)),h.o2.far hg (.inr (fun e=>by have:=(h.o2.lt b e).1;omega)),h.r1.le hm,h.r2.le hm,h.dj⟩
theorem Tw.push {R A3:Option Addr}{d c3:Nat}{l:List Int}(h:Tw t1 t2 B V A1 c1 x1 l1 A2 c2 x2 l2) (hr:RdI (msk V (GG B V A1 A2)) R l.length l) (k1:l.length≤d) (k2:d≤9223372036854775807)
 (ho:Own V' B t1 1 A3 (l1.length+1) c3 (x1 ++[.slice R l.length d])) (hg:V.grownBy V' (Qab A1)) (hat:Qab A3=Qab A1∨Qab A3=some V.heap.size):Tw t1 t2 B V' A3 c3 (x1 ++[.slice R l.length d]) (l1 ++[l]) A2 c2 x2 l2:=by
 have hxl:x1.length=l1.length:=by rw [h.o1.1,Nat.mul_one]
 have hm:Le (msk V (GG B V A1 A2)) (msk V' (GG B V' A3 A2)):=(Qbf.msk (Qbf.grown hg (fun b hb=>hb.2.2.1))).trans (Qbe (fun q hq=>⟨hq.1,Nat.lt_of_lt_of_le hq.2.1 hg.size,fun e=>by
  rcases hat with e2|e2
  · exact hq.2.2.1 (e2▸e)
  · rw [e2] at e
    have:=Option.some.inj e;have:=hq.2.1;omega,hq.2.2.2⟩))
 refine ⟨by rw [List.length_append];exact ho,h.o2.far hg ?_,?_,h.r2.le hm,fun g e e2=>?_⟩
 · cases e:Qab A2 with
   | none=>exact .inl rfl
   | some g=>exact .inr (fun e2=>h.dj g e2.symm e)
 · intro j l' hj
   rcases Nat.lt_trichotomy j l1.length with e|e|e
   · rw [List.getElem?_append_left e] at hj
     obtain ⟨R',d',q1,q2,q3⟩:=h.r1 j l' hj;exact ⟨R',d',by rw [List.getElem?_append_left (by omega)];exact q1,q2.le hm,q3⟩
   · subst e
     rw [List.getElem?_append_right (Zn _),Nat.sub_self] at hj
     cases hj
     exact ⟨R,d,by rw [←hxl,List.getElem?_append_right (Zn _),Nat.sub_self];rfl,hr.le hm,k1,k2⟩
   · rw [List.getElem?_eq_none (by simp;omega)] at hj
     cases hj
 · rcases hat with e3|e3
   · exact h.dj g (e3▸e) e2
   · rw [e3] at e
     have:=Option.some.inj e;have:=(h.o2.lt g e2).2;omega
theorem Tw.rd1 (h:Tw t1 t2 B V A1 c1 x1 l1 A2 c2 x2 l2):RdT (msk V (fun b=>B≤b)) A1 l1.length l1 :=
 ⟨rfl,fun j l hj=>by
  obtain ⟨R,d,q1,q2,q3⟩:=h.r1 j l hj;obtain ⟨b,o,e,k4⟩:=h.o1.rds.2 _ _ q1;exact ⟨b,o,R,_,d,e,Qbd.2 ⟨(h.o1.lt b (by rw [e];rfl)).1,k4⟩,q2.le (Qbe (fun b hb=>hb.1)),q3⟩⟩
end
theorem Qvr {f:Tri→Int}{l:List Tri}{v:Int}{k b:Nat} (h:(idx f l v)[k]?=some (b:Int)):∃ y,l[b]?=some y∧f y=v∧(idx f (l.take b) v).length=k:=by
 obtain ⟨b',y,e,hy,hv⟩:=Qey.1 (Zm h);obtain rfl:b=b':=by omega
 refine ⟨y,hy,hv,?_⟩;have hb:=(Zs hy).1;have h1:=idx_at (f:=f) hy l.length hb (Zn _);rw [List.take_length,hv] at h1;have hs:=Qlv f v l;rw [List.pairwise_iff_getElem] at hs;obtain ⟨p1,e1⟩:=Zs h;obtain ⟨p2,e2⟩:=Zs h1
 rcases Nat.lt_trichotomy (idx f (l.take b) v).length k with g|g|g
 · have:=hs _ _ p2 p1 g;omega
 · exact g
 · have:=hs _ _ p1 p2 g;omega
theorem turnN_eq {N:Qap}{a b v t:Nat}{x1 x3 y2 y3 v1 v2 z:Int}{tb:Qfc} (hx:N.ar[a]?=some (x1,(v:Int),x3)) (hy:N.ar[b]?=some ((v:Int),y2,y3)) (hv:N.vs[v]?=some (v1,v2,(t:Int))) (htb:N.ts[t]?=some tb)
 (hz:tb.costs[(idx (·.2.1) (N.ar.take a) (v:Int)).length*tb.outs.toNat+(idx (·.1) (N.ar.take b) (v:Int)).length]?=some z):Qau N a b=z:=by
 unfold Qau;rw [hx,hy];simp only [if_pos,Int.toNat_natCast,hv,htb,Qgw];rw [List.getD_eq_getElem?_getD,hz]
 rfl
def nxK (N:Qap)(a v k:Nat):List Int:=((idx (·.1) N.ar (v:Int)).take k).filter (fun b=>Qau N a b.toNat != 1152921504606846976)
def trK (N:Qap)(a v k:Nat):List Int:=(nxK N a v k).map (fun b=>Qau N a b.toNat)
theorem trK_len (N:Qap)(a v k:Nat):(trK N a v k).length=(nxK N a v k).length:=by simp [trK]
theorem nxK_le (N:Qap)(a v k:Nat):(nxK N a v k).length≤k:=Nat.le_trans (List.length_filter_le _ _) (List.length_take_le _ _)
theorem nxK_in {N:Qap}{a v k b:Nat} (h:(idx (·.1) N.ar (v:Int))[k]?=some (b:Int)) (ht:Qau N a b≠1152921504606846976):nxK N a v (k+1)=nxK N a v k ++[(b:Int)]∧trK N a v (k+1)=trK N a v k ++[Qau N a b]:=by
 have e:nxK N a v (k+1)=nxK N a v k ++[(b:Int)]:=by
  unfold nxK;rw [List.take_add_one,h,List.filter_append];simp [ht]
 exact ⟨e,by unfold trK;rw [e];simp⟩
theorem nxK_out {N:Qap}{a v k b:Nat} (h:(idx (·.1) N.ar (v:Int))[k]?=some (b:Int)) (ht:Qau N a b=1152921504606846976):nxK N a v (k+1)=nxK N a v k∧trK N a v (k+1)=trK N a v k:=by
 have e:nxK N a v (k+1)=nxK N a v k:=by
  unfold nxK;rw [List.take_add_one,h,List.filter_append];simp [ht]
 exact ⟨e,by unfold trK;rw [e]⟩
theorem nxK_all {N:Qap}{a v:Nat}{x:Tri} (hx:N.ar[a]?=some x) (hv:x.2.1=(v:Int)) {k:Nat} (hk:(idx (·.1) N.ar (v:Int)).length≤k):nxK N a v k=Qgj N a∧trK N a v k=Qps N a:=by
 have e:nxK N a v k=Qgj N a:=by
  unfold nxK Qgj;rw [hx,List.take_of_length_le hk];simp only [hv]
 exact ⟨e,by unfold trK Qps;rw [e]⟩
theorem Qju {N:Qap}{a:Nat}:(List.range (a+1)).map (Qgj N)=(List.range a).map (Qgj N) ++[Qgj N a]∧(List.range (a+1)).map (Qps N)=(List.range a).map (Qps N) ++[Qps N a]:=by
 rw [List.range_succ];simp
end Go.Proofs.YteaoiabikjnkeaaGreatDoor
