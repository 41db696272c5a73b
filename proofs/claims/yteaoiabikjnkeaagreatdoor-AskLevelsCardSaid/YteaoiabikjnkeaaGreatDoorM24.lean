/- Parts of the proof: AsQ, AsM, Pp, AsL, AsV. -/
import Derived.Test.YteaoiabikjnkeaaGreatDoorM1
import Derived.Test.YteaoiabikjnkeaaGreatDoorM13
import Derived.Test.YteaoiabikjnkeaaGreatDoorM15
import Derived.Test.YteaoiabikjnkeaaGreatDoorM18
import Derived.Test.YteaoiabikjnkeaaGreatDoorM22
import Derived.Test.YteaoiabikjnkeaaGreatDoorM23
namespace Go.Proofs.YteaoiabikjnkeaaGreatDoor
open Go.RowKit
section
variable {N:Qao} {ls:List (List Int)} {s t:Nat} {d:List Int}
theorem StW.lt {a b:Nat}{e:Int}(h:StW N a b e):b<N.ar.length:=by
 obtain ⟨y,hy,_⟩:=h;exact (Zs hy).1
theorem StW.bd (hok:Qau N){a b:Nat}{e:Int}(h:StW N a b e):0≤e∧e≤4294967296:=by
 obtain ⟨y,hy,h1,h2,rfl⟩:=h;have h3:=(Qdb hok a b).resolve_left h1;have h4:=(Qdu (hok.arcs y (Zm hy)).w).resolve_left h2;omega
theorem Qyl (hok:Qau N){p:Nat}{c:Int} (h:Rch (StW N) s p c):∃ e,Rch (StW N) s p e∧e≤MB:=by
 obtain ⟨e,h1,h2⟩:=Rch.bound (n:=N.ar.length) (D:=4294967296) (by omega) (fun p q d h=>⟨h.lt,(h.bd hok).2⟩) h;refine ⟨e,h1,?_⟩;have:=hok.la;unfold MB;omega
structure BfF (N:Qao) (s:Nat) (d:List Int):Prop where
 len:d.length=N.ar.length
 ok:∀ (b:Nat) (v:Int),d[b]?=some v→v=1152921504606846976∨(0≤v∧v<1152921504606846976∧Rch (StW N) s b v)
 zero:dAt d s=0
theorem BfF.at_ (h:BfF N s d)(a:Nat):dAt d a=1152921504606846976∨(0≤dAt d a∧dAt d a<1152921504606846976∧Rch (StW N) s a (dAt d a)):=by
 cases e:d[a]? with
 | none=>left; unfold dAt; rw [List.getD_eq_getElem?_getD,e]; rfl
 | some v=>rw [Qfr e]; exact h.ok a v e
theorem BfF.start (hs:s<N.ar.length):BfF N s ((List.replicate N.ar.length 1152921504606846976).set s 0):=by
 have hl:s<(List.replicate N.ar.length (1152921504606846976:Int)).length:=by simpa using hs
 refine ⟨by simp,fun b v h=>?_,by rw [Qwy hl,if_pos rfl]⟩
 by_cases e:s=b
 · subst e
   rw [List.getElem?_set_self hl] at h
   cases h
   exact .inr ⟨Int.le_refl _,by omega,.start⟩
 · rw [List.getElem?_set_ne e] at h
   obtain ⟨_,e2⟩:=Zs h;simp at e2;exact .inl e2.symm
theorem BfF.less (h:BfF N s d){a b:Nat}{e:Int}(ha:dAt d a<1152921504606846976)(hs:StW N a b e)(he:0≤e)(hlt:dAt d a+e<dAt d b):BfF N s (d.set b (dAt d a+e)):=by
 rcases h.at_ a with h1 | ⟨h1,_,h2⟩
 · omega
 have hb:b<d.length:=by rw [h.len]; exact hs.lt
 have hbi:dAt d b≤1152921504606846976:=by rcases h.at_ b with g | ⟨_,g,_⟩ <;> omega
 refine ⟨by rw [List.length_set]; exact h.len,fun q v hq=>?_,?_⟩
 · by_cases e1:b=q
   · subst e1
     rw [List.getElem?_set_self hb] at hq
     cases hq
     exact .inr ⟨by omega,by omega,h2.step hs⟩
   · rw [List.getElem?_set_ne e1] at hq
     exact h.ok q v hq
 · rw [Qwy hb]
   split
   · rename_i e1
     subst e1;have:=h.zero;omega
   · exact h.zero
theorem BfF.done (hok:Qau N)(h:BfF N s d)(hR:∀ a,dAt d a<1152921504606846976→∀ b e,StW N a b e→dAt d b≤dAt d a+e)(t:Nat):Lst (Rch (StW N) s t) (dAt d t):=by
 have hlow:∀ p c,Rch (StW N) s p c→dAt d p≤c:=by
  intro p c hr
  induction hr with
  | start=>rw [h.zero]; exact Int.le_refl _
  | @step p q c e _ h2 ih =>
   have he:=(h2.bd hok).1;have hq:dAt d q≤1152921504606846976:=by rcases h.at_ q with g | ⟨_,g,_⟩ <;> omega
   by_cases hlt:dAt d p<1152921504606846976
   · have:=hR p hlt q e h2; omega
   · omega
 rcases h.at_ t with h1 | ⟨_,_,h1⟩
 · right
   refine ⟨h1,fun c hc=>?_⟩;obtain ⟨e,h2,h3⟩:=Qyl hok hc;have:=hlow t e h2;unfold MB at h3;omega
 · exact .inl ⟨h1,hlow t⟩
def BfG (N:Qao)(d:List Int)(a k:Nat):Prop:=∀ (p j b:Nat),p<a∨p=a∧j<k→(Qgt N p)[j]?=some (b:Int)→dAt d p<1152921504606846976→∀ e,StW N p b e→dAt d b≤dAt d p+e
theorem BfG.next (hok:Qau N){a k b:Nat}{y:Tri}(h:BfG N d a k) (hb:(Qgt N a)[k]?=some (b:Int)) (hy:N.ar[b]?=some y) (hd0:0≤dAt d a) (htn:Qat N a b≠1152921504606846976) (hw0:0≤y.2.2) (hno:dAt d b≤Qdw (Qdw (dAt d a) (Qat N a b)) y.2.2):BfG N d a (k+1):=fun p j q hp hq hd e he=>by
 by_cases e1:p=a∧j=k
 · obtain ⟨rfl,rfl⟩:=e1
   rw [hb] at hq;have:(b:Int)=(q:Int):=Option.some.inj hq;obtain rfl:b=q:=by omega
   obtain ⟨y',hy',_,_,rfl⟩:=he;rw [hy] at hy'
   cases hy'
   have h1:=(Qdb hok p b).resolve_left htn;have g1:=Qik hd0 h1.1;have g2:=Qik g1.1 hw0;omega
 · exact h p j q (by omega) hq hd e he
theorem BfG.up {a k:Nat}(h:BfG N d a k) (hk:(Qgt N a).length≤k∨¬dAt d a<1152921504606846976):BfG N d (a+1) 0:=fun p j b hp hj hd e he=>by
 by_cases e1:p=a
 · subst e1
   rcases hk with hk | hk
   · exact h p j b (.inr ⟨rfl,by have:=(Zs hj).1; omega⟩) hj hd e he
   · exact absurd hd hk
 · exact h p j b (by omega) hj hd e he
theorem BfF.fin (hok:Qau N)(h:BfF N s d)(hG:BfG N d N.ar.length 0)(t:Nat):Lst (Rch (StW N) s t) (dAt d t):=by
 refine h.done hok (fun a ha b e he=>?_) t;obtain ⟨x,y,hx,hy,_,h1,_,_⟩:=he.ends;obtain ⟨j,hj⟩:=List.getElem?_of_mem (Qvm.2 ⟨b,rfl,h1⟩);exact hG a j b (.inl (Zs hx).1) hj ha e he
theorem BfF.nd (hok:Qau N)(h:BfF N s d){a b:Nat}{y:Tri}(ha:dAt d a<1152921504606846976)(htn:Qat N a b≠1152921504606846976) (hy:N.ar[b]?=some y) (hw0:0≤y.2.2) (hlt:Qdw (Qdw (dAt d a) (Qat N a b)) y.2.2<dAt d b) :
 BfF N s (d.set b (Qdw (Qdw (dAt d a) (Qat N a b)) y.2.2))∧0≤Qdw (Qdw (dAt d a) (Qat N a b)) y.2.2:=by
 have h1:=(Qdb hok a b).resolve_left htn
 rcases h.at_ a with h2 | ⟨h2,_,_⟩
 · omega
 have hdb:dAt d b≤1152921504606846976:=by rcases h.at_ b with g | ⟨_,g,_⟩ <;> omega
 have g1:=Qik h2 h1.1;have g2:=Qik g1.1 hw0;have e2:=g2.2.2.2 (by omega);have e3:=g1.2.2.2 (by omega);rw [e2,e3,Int.add_assoc] at hlt ⊢;exact ⟨h.less ha ⟨y,hy,htn,by omega,rfl⟩ (by omega) hlt,by omega⟩
end
/-! A search that takes the least first and stops where its end is taken. -/
theorem Dij.hit {St:Qbu}{s t:Nat}{dn hp:Nat→Option Int}(h:Dij St s dn hp)(h0:∀ p q d,St p q d→0≤d){c:Int}(hp1:hp t=some c)(hm:∀ q e,hp q=some e→c≤e):Lst (Rch St s t) c:=.inl ⟨h.hr t c hp1,h.least h0 hp1 hm⟩
theorem Dij.miss {St:Qbu}{s t:Nat}{dn hp:Nat→Option Int}(h:Dij St s dn hp)(h0:∀ p q d,St p q d→0≤d)(he:∀ q,hp q=none)(ht:dn t=none):Lst (Rch St s t) 1152921504606846976:=.inr ⟨rfl,fun c hc=>by
 obtain ⟨e,h1,_⟩:=h.all h0 he hc;rw [ht] at h1
 cases h1⟩
section
variable {N:Qao} {ls:List (List Int)} {av:List Int} {s:Nat}
theorem Qoz (hok:Qau N)(hP:Qay N.vs.length ls)(hav:toV N s∈av){p:Nat}{c:Int} (h:Rch (HSt N ls av) s p c):Qwo N ls av p:=by
 cases h with
 | start=>exact Qmm hav
 | step _ h2 =>
  rcases h2 with ⟨h0,h3⟩ | ⟨j,l,y,z,v,hj,hl,hy,hz,_,h5,h6,_⟩
  · obtain ⟨x,y,hx,hy,e,_⟩:=h3.ends
    exact Qpt hx hy e h0
  · exact Qpv hok hP hy hz hj hl h5 h6
theorem rchH_bd (hok:Qau N)(hP:Qay N.vs.length ls) (hE:∀ (j:Nat) (l:List Int) (a b:Nat) (y z:Tri),ls[j]?=some l→N.ar[a]?=some y→N.ar[b]?=some z→Qab l y.1≠Qab l y.2.1→Qab l z.1=Qab l y.2.1→Qab l z.2.1≠Qab l y.2.1→∃ v,Qgq N (Qek l (Qab l y.2.1)) a b v)
 (hs:∃ x,N.ar[s]?=some x) (hav:toV N s∈av) {p:Nat} {c:Int} (h:Rch (HSt N ls av) s p c):∃ e,Rch (HSt N ls av) s p e∧e≤MB:=by
 obtain ⟨e,h1,h2⟩:=Qyl hok (Qwm h);obtain ⟨a,c1,c2,g1,g2,g3,g4⟩:=Qny hok hP hE h1 hs hav
 rcases g4 with ⟨_,rfl,rfl⟩ | ⟨j,l,y,hj,hl,hy,hr⟩
 · exact ⟨c1,g1,by omega⟩
 · cases hr with
   | start=>exact ⟨c1,g1,by omega⟩
   | step _ h4 =>
    exfalso
    have hlen:=(hP.lvl l (Zm hl)).len;obtain ⟨_,w,_,hw,_,_,_,h5,h6,_⟩:=(Qcv hok hlen).1 h4;obtain ⟨l',hl',q1⟩:=Qce hj;rw [hl] at hl'
    cases hl'
    rw [(Qbn hy).1] at q1;have hm:=Qem (ls:=ls) (v:=toV N p) (av:=av) (j:=j) ⟨l,hl,fun v hv=>by rw [(Qbn hw).1,h6]; exact q1 v hv⟩;obtain ⟨k,hk⟩:∃ k,Qdd ls (toV N p) av=k+1:=⟨Qdd ls (toV N p) av-1,by omega⟩;obtain ⟨lk,hlk,_⟩:=Qce hk;obtain ⟨u,v,e1,e2,hu,hv⟩:=Qgc hok hw;have hg:=Qoz hok hP hav h k lk w hk hlk hw;rw [e1,e2] at hg;rw [e1] at h5;rw [e2] at h6;exact hg (Qix hP hl hu hv (h5.trans h6.symm) (k-j) lk (by rw [show j+(k-j)=k by omega]; exact hlk))
theorem HSt.bd (hok:Qau N){a b:Nat}{d:Int}(h:HSt N ls av a b d):0≤d∧d≤70379481595904:=by
 rcases h with ⟨_,h⟩ | ⟨j,l,y,z,v,_,_,_,hz,_,_,_,h7,h8,h9,rfl⟩
 · have:=h.bd hok; omega
 · have h1:=(h8.bd hok).resolve_left h9
   have h2:=(Qdu (hok.arcs z (Zm hz)).w).resolve_left h7;omega
theorem Qdo.ent {cl:List Int}(hok:Qau N)(hP:Qay N.vs.length ls)(h:Qdo N ls cl){j:Nat}{l:List Int}{a b:Nat}{y z:Tri} (hl:ls[j]?=some l) (hy:N.ar[a]?=some y) (hz:N.ar[b]?=some z) (h1:Qab l y.1≠Qab l y.2.1) (h2:Qab l z.1=Qab l y.2.1) (h3:Qab l z.2.1≠Qab l y.2.1) :
 ∃ (c:Nat) (x:Qan) (i k:Nat) (v:Int),Qab l y.2.1=(c:Int)∧(Qaf N.ar l)[c]?=some x∧x.1[i]?=some (a:Int)∧x.2[k]?=some (b:Int)∧Qfk N ls (Qgk (Qae N.ar ls) (Qaf N.ar l) j c x i k) j l c x i k a b∧cl[Qgk (Qae N.ar ls) (Qaf N.ar l) j c x i k]?=some v∧Qgq N (Qek l (Qab l y.2.1)) a b v:=by
 obtain ⟨_,u,_,e2,_,hu⟩:=Qgc hok hy;have hlv:=hP.lvl l (Zm hl);obtain ⟨c,hc,hcm,_⟩:=Qdl hlv (v:=u) hu;rw [←e2] at hc;have hcl:c<(Qaf N.ar l).length:=by rw [Qar]; exact hcm
 obtain ⟨x,hx⟩:∃ x,(Qaf N.ar l)[c]?=some x:=⟨_,Zg hcl⟩;obtain ⟨i,hi⟩:=List.getElem?_of_mem ((Qdf hx).2 ⟨y,hy,by rw [←hc]; exact h1,hc⟩);obtain ⟨k,hk⟩:=List.getElem?_of_mem ((Qby hx).2 ⟨z,hz,by rw [h2]; exact hc,by rw [←hc]; exact h3⟩);have he:Qfk N ls (Qgk (Qae N.ar ls) (Qaf N.ar l) j c x i k) j l c x i k a b:=⟨hl,hx,hi,hk,rfl⟩;obtain ⟨v,hv,hv2⟩:=h.at_ he;exact ⟨c,x,i,k,v,hc,hx,hi,hk,he,hv,by rw [hc]; exact hv2⟩
end
structure NxtP (N:Qao) (ls:List (List Int)) (av:List Int) (a:Nat) (os cs:List Int):Prop where
 len:cs.length=os.length
 to_:∀ (k:Nat) (o v:Int),os[k]?=some o→cs[k]?=some v→∃ (b:Nat) (y:Tri),o=(b:Int)∧N.ar[b]?=some y∧0≤v∧v≤1152921504606846976∧(v≠1152921504606846976→y.2.2≠1152921504606846976→HSt N ls av a b (v+y.2.2))
 all:∀ (b:Nat) (d:Int),HSt N ls av a b d→∃ (k:Nat) (v:Int) (y:Tri),os[k]?=some (b:Int)∧cs[k]?=some v∧N.ar[b]?=some y∧v≠1152921504606846976∧y.2.2≠1152921504606846976∧d=v+y.2.2
section
variable {N:Qao} {ls:List (List Int)} {av:List Int} {s a:Nat}
theorem Qxe (hok:Qau N){x:Tri} (hx:N.ar[a]?=some x) (h0:Qdd ls (toV N a) av=0):NxtP N ls av a (idx (·.1) N.ar x.2.1) ((idx (·.1) N.ar x.2.1).map (fun b=>Qat N a b.toNat)):=by
 refine ⟨by simp,fun k o v ho hv=>?_,fun b d hd=>?_⟩
 · obtain ⟨b,y,rfl,hy,hf⟩:=Qfm.1 (Zm ho)
   rw [List.getElem?_map,ho] at hv;have hv':Qat N a b=v:=by simpa using hv
   subst hv';have hb:=Qdb hok a b;exact ⟨b,y,rfl,hy,by omega,by omega,fun h1 h2=>.inl ⟨h0,y,hy,h1,h2,rfl⟩⟩
 · rcases hd with ⟨_,hd⟩ | ⟨j,_,_,_,_,hj,_⟩
   · obtain ⟨x',y,hx',hy,e,h1,h2,h3⟩:=hd.ends
     rw [hx] at hx'
     cases hx'
     obtain ⟨k,hk⟩:=List.getElem?_of_mem (Qfm.2 ⟨b,y,rfl,hy,e.symm⟩:(b:Int)∈idx (·.1) N.ar x.2.1);exact ⟨k,Qat N a b,y,hk,by rw [List.getElem?_map,hk]; simp,hy,h1,h2,h3⟩
   · omega
theorem Qwd (hok:Qau N){cl:List Int}(hA:Qdo N ls cl){j i c:Nat}{l:List Int}{x:Qan}{y:Tri} (hj:Qdd ls (toV N a) av=j+1) (hl:ls[j]?=some l) (hy:N.ar[a]?=some y) (hg:Qab l y.1≠Qab l y.2.1)
 (hc:Qab l y.2.1=(c:Int)) (hx:(Qaf N.ar l)[c]?=some x) (hi:x.1[i]?=some (a:Int)):NxtP N ls av a x.2 ((cl.drop (Qgk (Qae N.ar ls) (Qaf N.ar l) j c x i 0)).take x.2.length):=by
 have hat:∀ (k:Nat) (o:Int),x.2[k]?=some o→∃ (b:Nat) (z:Tri) (v:Int),o=(b:Int)∧N.ar[b]?=some z∧Qab l z.1=(c:Int)∧Qab l z.2.1≠(c:Int)∧((cl.drop (Qgk (Qae N.ar ls) (Qaf N.ar l) j c x i 0)).take x.2.length)[k]?=some v∧Qgq N (Qek l c) a b v:=by
  intro k o ho;have hk:=(Zs ho).1;have hm:=Zm ho;obtain ⟨b,rfl⟩:=Qdp hx ho;obtain ⟨z,hz,h1,h2⟩:=(Qby hx).1 hm;obtain ⟨v,hv,hv2⟩:=hA.at_ (show Qfk N ls (Qgk (Qae N.ar ls) (Qaf N.ar l) j c x i k) j l c x i k a b from ⟨hl,hx,hi,ho,rfl⟩)
  refine ⟨b,z,v,rfl,hz,h1,h2,?_,hv2⟩;rw [List.getElem?_take_of_lt hk,List.getElem?_drop];rw [←hv]
  congr 1
  unfold Qgk;omega
 have hlen:((cl.drop (Qgk (Qae N.ar ls) (Qaf N.ar l) j c x i 0)).take x.2.length).length=x.2.length:=by
  rw [List.length_take];refine Nat.min_eq_left ?_
  rcases Nat.eq_zero_or_pos x.2.length with h0 | h0
  · omega
  · obtain ⟨o,ho⟩:∃ o,x.2[x.2.length-1]?=some o:=⟨_,Zg (by omega)⟩
    obtain ⟨_,_,v,_,_,_,_,hv,_⟩:=hat _ _ ho;rw [List.getElem?_take_of_lt (by omega)] at hv;have:=(Zs hv).1;omega
 refine ⟨hlen,fun k o v ho hv=>?_,fun b d hd=>?_⟩
 · obtain ⟨b,z,v',rfl,hz,h1,h2,h3,h4⟩:=hat k o ho
   rw [hv] at h3
   cases h3
   have hb:=h4.bd hok;refine ⟨b,z,rfl,hz,by omega,by omega,fun g1 g2=>.inr ⟨j,l,y,z,v,hj,hl,hy,hz,hg,by rw [h1,hc],by rw [hc]; exact h2,g2,by rw [hc]; exact h4,g1,rfl⟩⟩
 · rcases hd with ⟨h0,_⟩ | ⟨j',l',y',z,v,hj',hl',hy',hz,_,h5,h6,h7,h8,h9,rfl⟩
   · omega
   · rw [hj] at hj'
     obtain rfl:j=j':=by omega
     rw [hl] at hl'
     cases hl'
     rw [hy] at hy'
     cases hy'
     rw [hc] at h5 h6 h8;obtain ⟨k,hk⟩:=List.getElem?_of_mem ((Qby hx).2 ⟨z,hz,h5,h6⟩);obtain ⟨b',z',v',e,hz',_,_,h3,h4⟩:=hat k _ hk;obtain rfl:b=b':=by omega
     rw [hz] at hz'
     cases hz'
     obtain rfl:=Lst.uniq h8 h4;exact ⟨k,v,z,hk,h3,hz,h9,h7,rfl⟩
inductive Via (N:Qao) (ls:List (List Int)) (av:List Int) (s:Nat) (bf:List Int) (dn:Nat→Option Int):Nat→Int→List (Nat×Nat)→Prop
 | start:Via N ls av s bf dn s 0 []
 | step {p q:Nat} {c d:Int} {hs:List (Nat×Nat)}:Via N ls av s bf dn p c hs→dn p=some c→q≠s→bf[q]?=some (p:Int)→HSt N ls av p q d→Via N ls av s bf dn q (c+d) (hs ++[(p,q)])
inductive HopP (N:Qao) (ls:List (List Int)) (av:List Int) (s:Nat):Nat→Int→List (Nat×Nat)→Prop
 | start:HopP N ls av s s 0 []
 | step {p q:Nat} {c d:Int} {hs:List (Nat×Nat)}:HopP N ls av s p c hs→HSt N ls av p q d→HopP N ls av s q (c+d) (hs ++[(p,q)])
variable {bf:List Int} {dn dn':Nat→Option Int} {q:Nat} {c:Int} {hs:List (Nat×Nat)}
theorem Via.hopP (h:Via N ls av s bf dn q c hs):HopP N ls av s q c hs:=by
 induction h with
 | start=>exact .start
 | step _ _ _ _ h2 ih=>exact ih.step h2
theorem Via.set {r:Nat}{v:Int}(h:Via N ls av s bf dn q c hs)(hq:q≠r)(hr:dn r=none):Via N ls av s (bf.set r v) dn q c hs:=by
 induction h with
 | start=>exact .start
 | @step p q c d hs h1 h2 h3 h4 h5 ih =>
  have hp:p≠r:=fun e=>by subst e; rw [hr] at h2; cases h2
  exact .step (ih hp) h2 h3 (by rw [List.getElem?_set_ne (fun e=>hq e.symm)]; exact h4) h5
theorem Via.more (h:Via N ls av s bf dn q c hs)(hd:∀ r e,dn r=some e→dn' r=some e):Via N ls av s bf dn' q c hs:=by
 induction h with
 | start=>exact .start
 | step _ h2 h3 h4 h5 ih=>exact .step ih (hd _ _ h2) h3 h4 h5
theorem Via.uniq {c':Int} {hs':List (Nat×Nat)} (h:Via N ls av s bf dn q c hs) (g:Via N ls av s bf dn q c' hs'):hs=hs':=by
 induction h generalizing c' hs' with
 | start =>
  cases g with
  | start=>rfl
  | step _ _ h _ _=>exact absurd rfl h
 | step h1 h2 h3 h4 h5 ih =>
  cases g with
  | start=>exact absurd rfl h3
  | step g1 g2 g3 g4 g5 =>
   rw [h4] at g4;have e:=Option.some.inj g4;obtain rfl:=Int.ofNat.inj e;rw [ih g1]
noncomputable def Qpn (N:Qao) (ls:List (List Int)) (av:List Int) (s:Nat) (bf:List Int) (dn:Nat→Option Int) (q:Nat):Nat:=by
 classical exact if h:∃ c hs,Via N ls av s bf dn q c hs then (Classical.choose (Classical.choose_spec h)).length else 0
theorem Qov (h:Via N ls av s bf dn q c hs):Qpn N ls av s bf dn q=hs.length:=by
 unfold Qpn;have he:∃ c hs,Via N ls av s bf dn q c hs:=⟨c,hs,h⟩;rw [dif_pos he];exact congrArg List.length ((Classical.choose_spec (Classical.choose_spec he)).uniq h)
structure Qvn (N:Qao) (ls:List (List Int)) (av:List Int) (s:Nat) (bf:List Int) (dn hp:Nat→Option Int) (k:Nat):Prop where
 done:∀ q c,dn q=some c→∃ hs,Via N ls av s bf dn q c hs∧hs.length+1≤k
 wait:∀ q c,hp q=some c→∃ hs,Via N ls av s bf dn q c hs∧hs.length≤k
 st:dn s≠none∨(∀ q,dn q=none)∧∀ q,q≠s→hp q=none
theorem Qvn.init {hp:Nat→Option Int}(h:∀ q,hp q=if q=s then some 0 else none):Qvn N ls av s bf (fun _=>none) hp 0:=by
 refine ⟨fun q c e=>(by cases e),fun q c e=>?_,.inr ⟨fun _=>rfl,fun q hq=>by rw [h q,if_neg hq]⟩⟩
 rw [h q] at e
 split at e
 · rename_i h1
   subst h1
   cases e
   exact ⟨[],.start,Zn _⟩
 · cases e
theorem Qvn.take {hp:Nat→Option Int}{p k:Nat}(h:Qvn N ls av s bf dn hp k)(hp1:hp p=some c)(hd:dn p=none):Qvn N ls av s bf (fun q=>if q=p then some c else dn q) (fun q=>if q=p then none else hp q) (k+1):=by
 have hm:∀ r e,dn r=some e→(fun q=>if q=p then some c else dn q) r=some e:=fun r e hr=>by
  have:r≠p:=fun e'=>by subst e'; rw [hd] at hr; cases hr
  simp [this,hr]
 refine ⟨fun q e hq=>?_,fun q e hq=>?_,?_⟩
 · by_cases hqp:q=p
   · subst hqp
     simp at hq;subst hq;obtain ⟨hs,h1,h2⟩:=h.wait q c hp1;exact ⟨hs,h1.more hm,by omega⟩
   · simp [hqp] at hq
     obtain ⟨hs,h1,h2⟩:=h.done q e hq;exact ⟨hs,h1.more hm,by omega⟩
 · by_cases hqp:q=p
   · simp [hqp] at hq
   · simp [hqp] at hq
     obtain ⟨hs,h1,h2⟩:=h.wait q e hq;exact ⟨hs,h1.more hm,by omega⟩
 · left
   by_cases hsp:s=p
   · simp [hsp]
   · simp only [if_neg hsp]
     rcases h.st with h1 | h1
     · exact h1
     · exact absurd (h1.2 p (fun e=>hsp e.symm)) (by rw [hp1]; exact fun h=>by cases h)
theorem Qvn.put {hp hp':Nat→Option Int}{p b k:Nat}{d:Int}(h:Qvn N ls av s bf dn hp k)(hp1:dn p=some c)(hb:dn b=none)(hbl:b<bf.length)(hst:HSt N ls av p b d)(h1:∀ r,r≠b→hp' r=hp r) (h2:hp' b=some (c+d)):Qvn N ls av s (bf.set b (p:Int)) dn hp' k:=by
 have hs0:dn s≠none:=by
  rcases h.st with g | g
  · exact g
  · rw [g.1 p] at hp1; cases hp1
 refine ⟨fun q e hq=>?_,fun q e hq=>?_,?_⟩
 · obtain ⟨hs,g,g2⟩:=h.done q e hq
   exact ⟨hs,g.set (fun e'=>by subst e'; rw [hb] at hq; cases hq) hb,g2⟩
 · by_cases hqb:q=b
   · subst hqb
     rw [h2] at hq
     cases hq
     obtain ⟨hs,g,g2⟩:=h.done p c hp1;have hqs:q≠s:=fun e=>hs0 (by rw [←e]; exact hb)
     exact ⟨_,.step (g.set (fun e'=>by subst e'; rw [hb] at hp1; cases hp1) hb) hp1 hqs (by rw [List.getElem?_set_self hbl]) hst,by rw [List.length_append,List.length_singleton]; exact g2⟩
   · rw [h1 q hqb] at hq
     obtain ⟨hs,g,g2⟩:=h.wait q e hq;exact ⟨hs,g.set hqb hb,g2⟩
 · exact .inl hs0
end
attribute [local go_sem ↓] Go.wp_at_zero Go.wp_at_succ
set_option maxHeartbeats 1000000 in
theorem Qhr (o:Nat)(ar:List Tri) (ls:List (List Int)) (w:World) (h:Qgj w o ar ls) (hL:ls.length≤1000000) (hc:∀ l∈ls,l.length≤1000000) :
 Calls Tryz.prog 38 #[.pointer (some ⟨o,0,none⟩)] w fun e w'=>∃ Q' cq',e=.returned (.agg #[.slice Q' ls.length cq'])∧RdT (msk w' (fun b=>w.heap.size≤b∧b<w'.heap.size)) Q' ls.length ls∧Below w.heap.size w w':=by
 obtain ⟨Q,F,T,G,S,L,m,cq,cf,ct,cg,cs,h⟩:=h;have h0:=h.n0;have hl:ls.length=L:=h.part.1;rw [hl] at hL ⊢;have HT:=Zh h.part;have HC:=Zh hc;have hol:=Qak h0;simp only at hol;clear h hc hl
 go_enter Tryz.func38,Tryz.ntmps38
 go_wp2_with fail
 (refine Qad ?_; intro w1 hw1)
 have hb1:Below w.heap.size w w1:=by rw [hw1]; exact Qah
 have hR1:Blk w1 w.heap.size 87 #[.slice none 0 0]:=by rw [hw1]; exact Qba
 have hz1:w.heap.size+1≤w1.heap.size:=by rw [hw1]; simp
 clear hw1;with_reducible refine (Qsj Q L cq ls _ (HT.out.below hb1) hL HC.out).mono ?_
 rintro e w2 ⟨Q',cq',rfl,hrw,_,_,hb2⟩;have hR2:=hR1.below hb2 hR1.lt;have r0:=hR2.cell 0;simp only [List.getElem?_toArray,List.getElem?_cons_zero] at r0;have f0:=hR2.frozen 0;have hb2':=Zb hb1 hb2
 have HW:=Zh (show RdT (msk (w2.setCell ⟨w.heap.size,0,none⟩ (.slice Q' L cq')) (fun b=>w.heap.size≤b∧b<(w2.setCell ⟨w.heap.size,0,none⟩ (.slice Q' L cq')).heap.size)) Q' L ls from
  hrw.le ((Qbi.set w2 w.heap.size 0 (.slice Q' L cq') (by omega)).msk.trans (Qbh (fun b hb=>⟨by omega,by have:=hb.2; simpa [World.setCell] using this⟩))))
 have hbe:Below w.heap.size w (w2.setCell ⟨w.heap.size,0,none⟩ (.slice Q' L cq')):=hb2'.setCell (Zn _) _;clear hrw hb2 hR1 hb1 h0
 go_wp2_with fail
 refine bodyPost_ret (v:=.agg #[.slice Q' L cq']) (by simp [results,Tryz.results38,go_sem,r0]) rfl ?_;exact ⟨_,_,rfl,HW.out,hbe⟩
def inR (n:Nat)(v:Int):Prop:=0≤v∧v<(n:Int)
noncomputable def lvI (n:Nat) (ls:List (List Int)) (v a b:Int):Int:=by classical exact if inR n v∧inR n a∧inR n b then (Qdd ls v [a,b]:Int) else 0
theorem Qsc {ls:List (List Int)} {v:Int} {av:List Int} {j:Nat} (h:Qcg ls j v av):Qjb ls v av (j+1)=j+1:=by unfold Qjb; rw [if_pos h]
theorem Qnn {ls:List (List Int)} {v:Int} {av:List Int} {j:Nat} (h:¬Qcg ls j v av):Qjb ls v av (j+1)=Qjb ls v av j:=by
 rw [show Qjb ls v av (j+1)=(by classical exact if Qcg ls j v av then j+1 else Qjb ls v av j) from rfl]
 rw [if_neg h]
set_option maxRecDepth 20000 in
set_option maxHeartbeats 2000000 in
theorem Qlr (Q:Option Addr)(L cq n:Nat) (ls:List (List Int)) (v a b:Int) (w:World) (h:RdT w Q L ls) (hP:Qay n ls) :
 Calls Tryz.prog 69 #[.slice Q L cq,.int .i64 v,.int .i64 a,.int .i64 b] w fun e w'=>e=.returned (.int .i64 (lvI n ls v a b))∧Below w.heap.size w w':=by
 have HT:=Zh h;have HP:=Zh hP;have hL6:L≤6:=by rw [←h.1]; exact hP.l6
 have HL1:=Zh (show 1≤L by rw [←h.1]; exact hP.l1)
 have HLL:=Zh h.1;have hix0:∀ W,(Instr.index 243 (.agg #[.int .i64 v,.int .i64 a,.int .i64 b]) (.int .i64 0)).run Tryz.prog W=.ok (.int .i64 v) W:=fun W=>by rfl
 have hix1:∀ W,(Instr.index 243 (.agg #[.int .i64 v,.int .i64 a,.int .i64 b]) (.int .i64 1)).run Tryz.prog W=.ok (.int .i64 a) W:=fun W=>by rfl
 have hix2:∀ W,(Instr.index 243 (.agg #[.int .i64 v,.int .i64 a,.int .i64 b]) (.int .i64 2)).run Tryz.prog W=.ok (.int .i64 b) W:=fun W=>by rfl
 clear h hP
 go_enter Tryz.func69,Tryz.ntmps69
 go_wp2_with fail
 go_loopw [9] (fun q W=>∃ j:Nat,j≤L∧q=.int .i64 j∧Below w.heap.size w W∧Qdd ls v [a,b]=Qjb ls v [a,b] j∧(j<L→inR n v∧inR n a∧inR n b)) (fun q _=>(intOf q).toNat)
 case atStart=>exact ⟨L,Zn _,rfl,Zr _ _,by unfold Qdd; rw [HLL.out],fun h=>absurd h (Nat.lt_irrefl _)⟩
 case round =>
  obtain ⟨J,hj,rfl,hb,hlv,hin⟩:=hrel;have HB:=Zh hb;have HLV:=Zh hlv;have HIN:=Zh hin;clear hlv hin
  by_cases h0:J=0
  · subst h0
    have e0:¬((1:Int)≤((0:Nat):Int)):=by omega
    clear hb
    have HZ:=Zh (show lvI n ls v a b=0 by
     unfold lvI;rw [if_pos (HIN.out (by have:=HL1.out; omega)),HLV.out]
     rfl)
    go_wp2_with fail
    go_ret
    rw [HZ.out];exact ⟨rfl,HB.out⟩
  · obtain ⟨j,hJ⟩:∃ j,J=j+1:=⟨J-1,by omega⟩
    have e0:(1:Int)≤(J:Int):=by omega
    have HJ:=Zh hJ;obtain ⟨qb,qo,A1,n1,c1,l,rfl,hl,k0,k1,_,_⟩:=(HT.out.below hb).at_ (i:=j) (by omega);have hlo:=HP.out.lvl l (Zm hl);obtain rfl:n=n1:=by rw [←k1.1]; exact hlo.len.symm
    have e1:(J:Int)-1=(j:Int):=by omega
    have e2:(0:Int)≤(j:Int):=by omega
    have e3:(j:Int)<(L:Int):=by omega
    have wl:IntKind.i64.wrap (j:Int)=(j:Int):=IntWalk.i64_in _ (by omega);have HL:=Zh hl;have HLO:=Zh hlo;have HR:=Zh k1;clear hl hlo k1 hb hJ h0
    go_wp2_with fail
    obtain ⟨wo,hwo⟩:∃ wo,wo=wr:=⟨_,rfl⟩;subst hwo
    go_loopw [28] (fun q W=>∃ i:Nat,i≤3∧q=.int .i64 i∧W=wo∧(0<i→inR n v)∧(1<i→inR n a)∧(2<i→inR n b)) (fun q _=>3-(intOf q).toNat)
    case atStart=>exact ⟨0,by omega,rfl,rfl,fun h=>by omega,fun h=>by omega,fun h=>by omega⟩
    case round =>
     obtain ⟨i,hi,rfl,rfl,h1,h2,h3⟩:=hrel;have H1:=Zh h1;have H2:=Zh h2;have H3:=Zh h3;clear h1 h2 h3
     rcases (by omega:i=0∨i=1∨i=2∨i=3) with rfl | rfl | rfl | rfl
     · skip
       by_cases hx:inR n v
       · have hx0:0≤v:=hx.1
         have hx1:v<(n:Int):=hx.2
         have HX:=Zh hx;clear hx
         go_wp2_with fail
         go_roundw
         case rel=>first | exact ⟨0+1,by omega,by go_num,trivial,(fun _=>HX.out),(fun h=>by omega),(fun h=>by omega)⟩ | exact ⟨0+1,by omega,by go_num,rfl,(fun _=>HX.out),(fun h=>by omega),(fun h=>by omega)⟩
         case measure=>simp [intOf]
       · have HZ:=Zh (show lvI n ls v a b=0 by unfold lvI; rw [if_neg (fun h=>hx h.1)])
         by_cases hx0:v<0
         · clear hx
           go_wp2_with fail
           go_ret
           rw [HZ.out];exact ⟨rfl,HB.out⟩
         · have hx1:(n:Int)≤v:=by unfold inR at hx; omega
           have hx2:0≤v:=by omega
           clear hx
           go_wp2_with fail
           go_ret
           rw [HZ.out];exact ⟨rfl,HB.out⟩
     · skip
       by_cases hx:inR n a
       · have hx0:0≤a:=hx.1
         have hx1:a<(n:Int):=hx.2
         have HX:=Zh hx;clear hx
         go_wp2_with fail
         go_roundw
         case rel=>first | exact ⟨1+1,by omega,by go_num,trivial,(fun _=>H1.out (by omega)),(fun _=>HX.out),(fun h=>by omega)⟩ | exact ⟨1+1,by omega,by go_num,rfl,(fun _=>H1.out (by omega)),(fun _=>HX.out),(fun h=>by omega)⟩
         case measure=>simp [intOf]
       · have HZ:=Zh (show lvI n ls v a b=0 by unfold lvI; rw [if_neg (fun h=>hx h.2.1)])
         by_cases hx0:a<0
         · clear hx
           go_wp2_with fail
           go_ret
           rw [HZ.out];exact ⟨rfl,HB.out⟩
         · have hx1:(n:Int)≤a:=by unfold inR at hx; omega
           have hx2:0≤a:=by omega
           clear hx
           go_wp2_with fail
           go_ret
           rw [HZ.out];exact ⟨rfl,HB.out⟩
     · skip
       by_cases hx:inR n b
       · have hx0:0≤b:=hx.1
         have hx1:b<(n:Int):=hx.2
         have HX:=Zh hx;clear hx
         go_wp2_with fail
         go_roundw
         case rel=>first | exact ⟨2+1,by omega,by go_num,trivial,(fun _=>H1.out (by omega)),(fun _=>H2.out (by omega)),(fun _=>HX.out)⟩ | exact ⟨2+1,by omega,by go_num,rfl,(fun _=>H1.out (by omega)),(fun _=>H2.out (by omega)),(fun _=>HX.out)⟩
         case measure=>simp [intOf]
       · have HZ:=Zh (show lvI n ls v a b=0 by unfold lvI; rw [if_neg (fun h=>hx h.2.2)])
         by_cases hx0:b<0
         · clear hx
           go_wp2_with fail
           go_ret
           rw [HZ.out];exact ⟨rfl,HB.out⟩
         · have hx1:(n:Int)≤b:=by unfold inR at hx; omega
           have hx2:0≤b:=by omega
           clear hx
           go_wp2_with fail
           go_ret
           rw [HZ.out];exact ⟨rfl,HB.out⟩
     · have hv:=H1.out (by omega)
       have ha:=H2.out (by omega);have hb:=H3.out (by omega);have HIR:=Zh (And.intro hv (And.intro ha hb));unfold inR at hv ha hb;obtain ⟨vn,rfl⟩:∃ vn:Nat,v=(vn:Int):=⟨v.toNat,by omega⟩;obtain ⟨an,rfl⟩:∃ vn:Nat,a=(vn:Int):=⟨a.toNat,by omega⟩;obtain ⟨bn,rfl⟩:∃ vn:Nat,b=(vn:Int):=⟨b.toNat,by omega⟩;obtain ⟨lb,lo,zv,rfl,hzv,cv⟩:=HR.out.at_ (i:=vn) (by omega);obtain ⟨_,_,za,ea,hza,ca⟩:=HR.out.at_ (i:=an) (by omega)
       cases ea
       obtain ⟨_,_,zb,eb,hzb,cb⟩:=HR.out.at_ (i:=bn) (by omega)
       cases eb
       have p1:(0:Int)≤(vn:Int):=by omega
       have p2:(0:Int)≤(an:Int):=by omega
       have p3:(0:Int)≤(bn:Int):=by omega
       have p4:(vn:Int)<(n:Int):=by omega
       have p5:(an:Int)<(n:Int):=by omega
       have p6:(bn:Int)<(n:Int):=by omega
       have HAP:=Zh (show Qcg ls j (vn:Int) [(an:Int),(bn:Int)]↔zv≠za∧zv≠zb from by
        constructor
        · rintro ⟨l',hl',g⟩
          rw [HL.out] at hl'
          cases hl'
          have g1:=g _ (List.mem_cons_self ..);have g2:=g _ (List.mem_cons_of_mem _ (List.mem_cons_self ..));rw [Qap hzv,Qap hza] at g1;rw [Qap hzv,Qap hzb] at g2;exact ⟨g1,g2⟩
        · rintro ⟨g1,g2⟩
          refine ⟨l,HL.out,fun x hx=>?_⟩;rw [List.mem_cons,List.mem_cons] at hx
          rcases hx with rfl | rfl | hx
          · rw [Qap hzv,Qap hza]; exact g1
          · rw [Qap hzv,Qap hzb]; exact g2
          · cases hx)
       clear hv ha hb hzv hza hzb
       go_wp2_with fail
       refine wp_region_held_drew (S:=fun V=>V=wr.drew) (by kernel_rfl) rfl (fun _=>?_)
       by_cases h1:zv=za
       · have e4:(zv != za)=false:=by simp [h1]
         have HNA:=Zh (show ¬Qcg ls j (vn:Int) [(an:Int),(bn:Int)] from fun h=>(HAP.out.1 h).1 h1)
         clear h1;refine tz 0 40 ?_;refine tz 1 41 ?_;refine tz 2 42 ?_;refine tz 3 43 ?_;refine tz 4 44 ?_;refine tz 5 45 ?_;refine tz 6 46 ?_;refine tz 7 47 ?_;refine tz 8 48 ?_;refine tz 9 49 ?_;refine tw 10 50 ?_;refine tw 11 51 ?_;refine tw 12 52 ?_;refine tw 13 53 ?_;refine tw 14 54 ?_;refine tw 15 55 ?_;refine tw 16 56 ?_;refine tw 17 57 ?_;refine tw 18 58 ?_;refine tz 19 59 ?_;refine wpAnyH_done (by kernel_rfl) ?_ _;have HLN:=Zh (Qnn HNA.out);have HB2:=Zh (HB.out.trans ((Zr _ _).drew.mono HB.out.size))
         go_wp2_with fail
         go_roundw
         case rel=>exact ⟨j,by omega,by go_num,HB2.out,by rw [HLV.out,HJ.out,HLN.out],fun _=>HIR.out⟩
         case measure=>(have:=HJ.out; simp [intOf]; omega)
       · have e4:(zv != za)=true:=by simp [h1]
         by_cases h2:zv=zb
         · have e5:(zv != zb)=false:=by simp [h2]
           have HNA:=Zh (show ¬Qcg ls j (vn:Int) [(an:Int),(bn:Int)] from fun h=>(HAP.out.1 h).2 h2)
           clear h1 h2;refine tz 0 40 ?_;refine tz 1 41 ?_;refine tz 2 42 ?_;refine tz 3 43 ?_;refine tz 4 44 ?_;refine tz 5 45 ?_;refine tz 6 46 ?_;refine tz 7 47 ?_;refine tz 8 48 ?_;refine tz 9 49 ?_;refine tz 10 50 ?_;refine tz 11 51 ?_;refine tz 12 52 ?_;refine tz 13 53 ?_;refine tz 14 54 ?_;refine tz 15 55 ?_;refine tz 16 56 ?_;refine tz 17 57 ?_;refine tz 18 58 ?_;refine tz 19 59 ?_;refine wpAnyH_done (by kernel_rfl) ?_ _;have HLN:=Zh (Qnn HNA.out);have HB2:=Zh (HB.out.trans ((Zr _ _).drew.mono HB.out.size))
           go_wp2_with fail
           go_roundw
           case rel=>exact ⟨j,by omega,by go_num,HB2.out,by rw [HLV.out,HJ.out,HLN.out],fun _=>HIR.out⟩
           case measure=>(have:=HJ.out; simp [intOf]; omega)
         · have e5:(zv != zb)=true:=by simp [h2]
           have HYA:=Zh (Qsc (HAP.out.2 ⟨h1,h2⟩));clear h1 h2;refine tz 0 40 ?_;refine tz 1 41 ?_;refine tz 2 42 ?_;refine tz 3 43 ?_;refine tz 4 44 ?_;refine tz 5 45 ?_;refine tz 6 46 ?_;refine tz 7 47 ?_;refine tz 8 48 ?_;refine tz 9 49 ?_;refine tz 10 50 ?_;refine tz 11 51 ?_;refine tz 12 52 ?_;refine tz 13 53 ?_;refine tz 14 54 ?_;refine tz 15 55 ?_;refine tz 16 56 ?_;refine tz 17 57 ?_;refine tz 18 58 ?_;refine tz 19 59 ?_;refine wpAnyH_done (by kernel_rfl) ?_ _;have HB2:=Zh (HB.out.trans ((Zr _ _).drew.mono HB.out.size));have HZ:=Zh (show lvI n ls (vn:Int) (an:Int) (bn:Int)=(J:Int) by unfold lvI; rw [if_pos HIR.out,HLV.out,HJ.out,HYA.out])
           go_wp2_with fail
           go_ret
           rw [HZ.out];exact ⟨rfl,HB2.out⟩
def LeapQ (N:Qao) (ls:List (List Int)) (lv:Int) (a b:Nat):Prop:=∃ (j:Nat) (l:List Int) (y z:Tri),lv=(j:Int)+1∧ls[j]?=some l∧N.ar[a]?=some y∧N.ar[b]?=some z∧Qab l y.1≠Qab l y.2.1∧Qab l z.1=Qab l y.2.1∧Qab l z.2.1≠Qab l y.2.1
def Qob (N:Qao) (ls:List (List Int)) (lv f t v:Int):Prop :=
 (∃ (a b:Nat) (y z:Tri),f=(a:Int)∧t=(b:Int)∧N.ar[a]?=some y∧N.ar[b]?=some z∧lv=0∧v=Qdw (Qat N a b) z.2.2) ∨
 (∃ (a b j:Nat) (l:List Int) (y z:Tri) (e:Int),f=(a:Int)∧t=(b:Int)∧lv=(j:Int)+1∧ls[j]?=some l∧N.ar[a]?=some y∧N.ar[b]?=some z∧Qab l y.1≠Qab l y.2.1∧Qab l z.1=Qab l y.2.1∧Qab l z.2.1≠Qab l y.2.1∧Qgq N (Qek l (Qab l y.2.1)) a b e∧v=Qdw e z.2.2) ∨
 (v=1152921504606846976∧∀ (a b:Nat),f=(a:Int)→t=(b:Int)→a<N.ar.length→b<N.ar.length→lv≠0∧¬LeapQ N ls lv a b)
theorem Qob.uniq {N:Qao} {ls:List (List Int)} {lv f t v w:Int} (h:Qob N ls lv f t v) (g:Qob N ls lv f t w):v=w:=by
 rcases h with ⟨a,b,y,z,rfl,rfl,hy,hz,rfl,rfl⟩ | ⟨a,b,j,l,y,z,e,rfl,rfl,rfl,hl,hy,hz,h1,h2,h3,h4,rfl⟩ | ⟨rfl,hn⟩
 · rcases g with ⟨a',b',y',z',e1,e2,hy',hz',_,rfl⟩ | ⟨a',b',j',l',y',z',e',e1,e2,e3,_⟩ | ⟨rfl,gn⟩
   · obtain rfl:=Int.ofNat.inj e1
     obtain rfl:=Int.ofNat.inj e2;rw [hz] at hz'
     cases hz'
     rfl
   · omega
   · exact absurd rfl (gn a b rfl rfl (Zs hy).1 (Zs hz).1).1
 · rcases g with ⟨a',b',y',z',e1,e2,hy',hz',e3,rfl⟩ | ⟨a',b',j',l',y',z',e',e1,e2,e3,hl',hy',hz',g1,g2,g3,g4,rfl⟩ | ⟨rfl,gn⟩
   · omega
   · obtain rfl:=Int.ofNat.inj e1
     obtain rfl:=Int.ofNat.inj e2;obtain rfl:j=j':=by omega
     rw [hl] at hl'
     cases hl'
     rw [hy] at hy'
     cases hy'
     rw [hz] at hz'
     cases hz'
     rw [Lst.uniq h4 g4]
   · exact absurd ⟨j,l,y,z,rfl,hl,hy,hz,h1,h2,h3⟩ (gn a b rfl rfl (Zs hy).1 (Zs hz).1).2
 · rcases g with ⟨a',b',y',z',rfl,rfl,hy',hz',rfl,rfl⟩ | ⟨a',b',j',l',y',z',e',rfl,rfl,rfl,hl',hy',hz',g1,g2,g3,g4,rfl⟩ | ⟨rfl,gn⟩
   · exact absurd rfl (hn a' b' rfl rfl (Zs hy').1 (Zs hz').1).1
   · exact absurd ⟨j',l',y',z',rfl,hl',hy',hz',g1,g2,g3⟩ (hn a' b' rfl rfl (Zs hy').1 (Zs hz').1).2
   · rfl
end Go.Proofs.YteaoiabikjnkeaaGreatDoor
