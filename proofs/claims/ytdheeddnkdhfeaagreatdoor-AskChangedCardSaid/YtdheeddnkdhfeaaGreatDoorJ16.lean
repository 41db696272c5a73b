/- Parts of the proof: RoR, AsQ, AsM, Pp, AsL, AsV, LpG, AsK, Pd. -/
import Derived.Test.YtdheeddnkdhfeaaGreatDoorJ15
namespace Go.Proofs.YtdheeddnkdhfeaaGreatDoor
open Go.RowKit Go.Proofs.Tryz
theorem Qjc {x y:Int}(hx:0≤x)(hy:0≤y):0≤Qdz x y∧Qdz x y≤1152921504606846976∧Qdz x y≤x+y∧(Qdz x y<1152921504606846976→Qdz x y=x+y):=by
 unfold Qdz
 split <;> omega
def Qwo (d:List Int):Nat:=(d.map Int.toNat).sum
theorem Qtq:∀ (d:List Int)(b:Nat)(v x:Int),d[b]?=some x→0≤v→v<x→Qwo (d.set b v)<Qwo d
 | [],b,v,x,h,_,_=>by simp at h
 | z::t,0,v,x,h,h1,h2=>by
  simp at h;subst h;simp only [Qwo,Yj,List.map_cons,List.sum_cons];omega
 | z::t,b+1,v,x,h,h1,h2=>by
  have:=Qtq t b v x (by simpa using h) h1 h2;simp only [Qwo,Yk,List.map_cons,List.sum_cons] at this ⊢;omega
section
variable {N:Qak} {mk:List Bool} {s t:Nat} {d:List Int} {best:Int}
theorem Qyd {d:List Int}{b q:Nat}{v:Int}(hb:b<d.length):dAt (d.set b v) q=if b=q then v else dAt d q:=by
 unfold dAt;simp only [Ya]
 by_cases e:b=q
 · subst e;rw [if_pos rfl,Yg hb];rfl
 · rw [if_neg e,Yh e]
def rowOf (V:World)(D:Nat):List Int:=match V.heap[D]? with
 | some (.cells cs _ _)=>cs.toList.map (fun v=>match v with | .int _ x=>x | _=>0)
 | _=>[]
theorem Qpx {V:World}{D:Nat}{ty:TypeId}{l:List Int} (h:Blk V D ty (Qcs l)):rowOf V D=l:=by
 unfold rowOf;rw [show V.heap[D]?=_ from h]
 simp only [Qcs,List.map_map];exact List.map_id l
end
section
variable {N:Qak} {ls:List (List Int)} {s t:Nat} {d:List Int}
theorem StW.lt {a b:Nat}{e:Int}(h:StW N a b e):b<N.ar.length:=by
 obtain ⟨y,hy,_⟩:=h;exact (Zs hy).1
theorem StW.bd (hok:Qas N){a b:Nat}{e:Int}(h:StW N a b e):0≤e∧e≤4294967296:=by
 obtain ⟨y,hy,h1,h2,rfl⟩:=h;have h3:=(Qcw hok a b).resolve_left h1;have h4:=(Qdw (hok.arcs y (Zm hy)).w).resolve_left h2;omega
theorem Qye (hok:Qas N){p:Nat}{c:Int} (h:Rch (StW N) s p c):∃ e,Rch (StW N) s p e∧e≤MB:=by
 exact Kci
structure BfF (N:Qak) (s:Nat) (d:List Int):Prop where
 len:d.length=N.ar.length
 ok:∀ (b:Nat) (v:Int),d[b]?=some v→v=1152921504606846976∨(0≤v∧v<1152921504606846976∧Rch (StW N) s b v)
 zero:dAt d s=0
theorem BfF.at_ (h:BfF N s d)(a:Nat):dAt d a=1152921504606846976∨(0≤dAt d a∧dAt d a<1152921504606846976∧Rch (StW N) s a (dAt d a)):=by
 cases e:d[a]? with
 | none=>left;unfold dAt;rw [Ya,e];rfl
 | some v=>rw [Qfn e];exact h.ok a v e
theorem BfF.start (hs:s<N.ar.length):BfF N s ((List.replicate N.ar.length 1152921504606846976).set s 0):=by
 have hl:s<(List.replicate N.ar.length (1152921504606846976:Int)).length:=by simpa using hs
 refine ⟨by simp,fun b v h=>?_,by rw [Qyd hl,if_pos rfl]⟩
 by_cases e:s=b
 · subst e
   rw [Yg hl] at h
   cases h
   exact .inr ⟨Int.le_refl _,by omega,.start⟩
 · rw [Yh e] at h
   obtain ⟨_,e2⟩:=Zs h;simp at e2;exact .inl e2.symm
theorem BfF.less (h:BfF N s d){a b:Nat}{e:Int}(ha:dAt d a<1152921504606846976)(hs:StW N a b e)(he:0≤e)(hlt:dAt d a+e<dAt d b):BfF N s (d.set b (dAt d a+e)):=by
 rcases h.at_ a with h1|⟨h1,_,h2⟩
 · omega
 have hb:b<d.length:=by rw [h.len];exact hs.lt
 have hbi:dAt d b≤1152921504606846976:=by rcases h.at_ b with g|⟨_,g,_⟩ <;> omega
 refine ⟨by rw [Yq];exact h.len,fun q v hq=>?_,?_⟩
 · by_cases e1:b=q
   · subst e1
     rw [Yg hb] at hq
     cases hq
     exact .inr ⟨by omega,by omega,h2.step hs⟩
   · rw [Yh e1] at hq
     exact h.ok q v hq
 · rw [Qyd hb]
   split
   · rename_i e1
     subst e1;have:=h.zero;omega
   · exact h.zero
theorem BfF.done (hok:Qas N)(h:BfF N s d)(hR:∀ a,dAt d a<1152921504606846976→∀ b e,StW N a b e→dAt d b≤dAt d a+e)(t:Nat):Lst (Rch (StW N) s t) (dAt d t):=by
 have hlow:∀ p c,Rch (StW N) s p c→dAt d p≤c:=by
  intro p c hr
  induction hr with
  | start=>rw [h.zero];exact Int.le_refl _
  | @step p q c e _ h2 ih =>
   have he:=(h2.bd hok).1;have hq:dAt d q≤1152921504606846976:=by rcases h.at_ q with g|⟨_,g,_⟩ <;> omega
   by_cases hlt:dAt d p<1152921504606846976
   · have:=hR p hlt q e h2;omega
   · omega
 rcases h.at_ t with h1|⟨_,_,h1⟩
 · right
   refine ⟨h1,fun c hc=>?_⟩;obtain ⟨e,h2,h3⟩:=Qye hok hc;have:=hlow t e h2;unfold MB at h3;omega
 · exact .inl ⟨h1,hlow t⟩
def BfG (N:Qak)(d:List Int)(a k:Nat):Prop:=∀ (p j b:Nat),p<a∨p=a∧j<k→(Qhe N p)[j]?=some (b:Int)→dAt d p<1152921504606846976→∀ e,StW N p b e→dAt d b≤dAt d p+e
theorem BfG.next (hok:Qas N){a k b:Nat}{y:Tri}(h:BfG N d a k) (hb:(Qhe N a)[k]?=some (b:Int)) (hy:N.ar[b]?=some y) (hd0:0≤dAt d a) (htn:Qaw N a b≠1152921504606846976) (hw0:0≤y.2.2) (hno:dAt d b≤Qdz (Qdz (dAt d a) (Qaw N a b)) y.2.2):BfG N d a (k+1):=fun p j q hp hq hd e he=>by
 by_cases e1:p=a∧j=k
 · obtain ⟨rfl,rfl⟩:=e1
   rw [hb] at hq;have:(b:Int)=(q:Int):=Yv hq;obtain rfl:b=q:=by omega
   obtain ⟨y',hy',_,_,rfl⟩:=he;rw [hy] at hy'
   cases hy'
   have h1:=(Qcw hok p b).resolve_left htn;have g1:=Qjc hd0 h1.1;have g2:=Qjc g1.1 hw0;omega
 · exact h p j q (by omega) hq hd e he
theorem BfG.up {a k:Nat}(h:BfG N d a k) (hk:(Qhe N a).length≤k∨¬dAt d a<1152921504606846976):BfG N d (a+1) 0:=fun p j b hp hj hd e he=>by
 by_cases e1:p=a
 · subst e1
   rcases hk with hk|hk
   · exact h p j b (.inr ⟨rfl,by have:=(Zs hj).1;omega⟩) hj hd e he
   · exact absurd hd hk
 · exact h p j b (by omega) hj hd e he
theorem BfF.fin (hok:Qas N)(h:BfF N s d)(hG:BfG N d N.ar.length 0)(t:Nat):Lst (Rch (StW N) s t) (dAt d t):=by
 refine h.done hok (fun a ha b e he=>?_) t;obtain ⟨x,y,hx,hy,_,h1,_,_⟩:=he.ends;obtain ⟨j,hj⟩:=Yr (Qxw.2 ⟨b,rfl,h1⟩);exact hG a j b (.inl (Zs hx).1) hj ha e he
theorem BfF.nd (hok:Qas N)(h:BfF N s d){a b:Nat}{y:Tri}(ha:dAt d a<1152921504606846976)(htn:Qaw N a b≠1152921504606846976) (hy:N.ar[b]?=some y) (hw0:0≤y.2.2) (hlt:Qdz (Qdz (dAt d a) (Qaw N a b)) y.2.2<dAt d b) :
 BfF N s (d.set b (Qdz (Qdz (dAt d a) (Qaw N a b)) y.2.2))∧0≤Qdz (Qdz (dAt d a) (Qaw N a b)) y.2.2:=by
 have h1:=(Qcw hok a b).resolve_left htn
 rcases h.at_ a with h2|⟨h2,_,_⟩
 · omega
 have hdb:dAt d b≤1152921504606846976:=by rcases h.at_ b with g|⟨_,g,_⟩ <;> omega
 have g1:=Qjc h2 h1.1;have g2:=Qjc g1.1 hw0;have e2:=g2.2.2.2 (by omega);have e3:=g1.2.2.2 (by omega);rw [e2,e3,Int.add_assoc] at hlt ⊢;exact ⟨h.less ha ⟨y,hy,htn,by omega,rfl⟩ (by omega) hlt,by omega⟩
end
/-! A search that takes the least first and stops where its end is taken. -/
theorem Dij.hit {St:Qbz}{s t:Nat}{dn hp:Nat→Option Int}(h:Dij St s dn hp)(h0:∀ p q d,St p q d→0≤d){c:Int}(hp1:hp t=some c)(hm:∀ q e,hp q=some e→c≤e):Lst (Rch St s t) c:=.inl ⟨h.hr t c hp1,h.least h0 hp1 hm⟩
theorem Dij.miss {St:Qbz}{s t:Nat}{dn hp:Nat→Option Int}(h:Dij St s dn hp)(h0:∀ p q d,St p q d→0≤d)(he:∀ q,hp q=none)(ht:dn t=none):Lst (Rch St s t) 1152921504606846976:=.inr ⟨rfl,fun c hc=>by
 obtain ⟨e,h1,_⟩:=h.all h0 he hc;rw [ht] at h1
 cases h1⟩
section
variable {N:Qak} {ls:List (List Int)} {av:List Int} {s:Nat}
theorem Qpo (hok:Qas N)(hP:Qbc N.vs.length ls)(hav:toV N s∈av){p:Nat}{c:Int} (h:Rch (HSt N ls av) s p c):Raq N ls av p:=by
 cases h with
 | start=>exact Qmk hav
 | step _ h2 =>
  rcases h2 with ⟨h0,h3⟩|⟨j,l,y,z,v,hj,hl,hy,hz,_,h5,h6,_⟩
  · obtain ⟨x,y,hx,hy,e,_⟩:=h3.ends
    exact Qow hx hy e h0
  · exact Qpk hok hP hy hz hj hl h5 h6
theorem rchH_bd (hok:Qas N)(hP:Qbc N.vs.length ls) (hE:∀ (j:Nat) (l:List Int) (a b:Nat) (y z:Tri),ls[j]?=some l→N.ar[a]?=some y→N.ar[b]?=some z→Qad l y.1≠Qad l y.2.1→Qad l z.1=Qad l y.2.1→Qad l z.2.1≠Qad l y.2.1→∃ v,Qgx N (Qeu l (Qad l y.2.1)) a b v)
 (hs:∃ x,N.ar[s]?=some x) (hav:toV N s∈av) {p:Nat} {c:Int} (h:Rch (HSt N ls av) s p c):∃ e,Rch (HSt N ls av) s p e∧e≤MB:=by
 obtain ⟨e,h1,h2⟩:=Qye hok (Qyu h);obtain ⟨a,c1,c2,g1,g2,g3,g4⟩:=Qpc hok hP hE h1 hs hav
 rcases g4 with ⟨_,rfl,rfl⟩|⟨j,l,y,hj,hl,hy,hr⟩
 · exact ⟨c1,g1,by omega⟩
 · cases hr with
   | start=>exact ⟨c1,g1,by omega⟩
   | step _ h4 =>
    exfalso
    have hlen:=(hP.lvl l (Zm hl)).len;obtain ⟨_,w,_,hw,_,_,_,h5,h6,_⟩:=(Qdd hok hlen).1 h4;obtain ⟨l',hl',q1⟩:=Qdl hj;rw [hl] at hl'
    cases hl'
    rw [(Qbq hy).1] at q1;have hm:=Qhl (ls:=ls) (v:=toV N p) (av:=av) (j:=j) ⟨l,hl,fun v hv=>by rw [(Qbq hw).1,h6];exact q1 v hv⟩;obtain ⟨k,hk⟩:∃ k,Qfy ls (toV N p) av=k+1:=⟨Qfy ls (toV N p) av-1,by omega⟩;obtain ⟨lk,hlk,_⟩:=Qdl hk;obtain ⟨u,v,e1,e2,hu,hv⟩:=Qgj hok hw;have hg:=Qpo hok hP hav h k lk w hk hlk hw;rw [e1,e2] at hg;rw [e1] at h5;rw [e2] at h6;exact hg (Qof hP hl hu hv (h5.trans h6.symm) (k-j) lk (by rw [show j+(k-j)=k by omega];exact hlk))
theorem HSt.bd (hok:Qas N){a b:Nat}{d:Int}(h:HSt N ls av a b d):0≤d∧d≤70379481595904:=by
 rcases h with ⟨_,h⟩|⟨j,l,y,z,v,_,_,_,hz,_,_,_,h7,h8,h9,rfl⟩
 · have:=h.bd hok;omega
 · have h1:=(h8.bd hok).resolve_left h9
   have h2:=(Qdw (hok.arcs z (Zm hz)).w).resolve_left h7;omega
theorem Qdh.ent {cl:List Int}(hok:Qas N)(hP:Qbc N.vs.length ls)(h:Qdh N ls cl){j:Nat}{l:List Int}{a b:Nat}{y z:Tri} (hl:ls[j]?=some l) (hy:N.ar[a]?=some y) (hz:N.ar[b]?=some z) (h1:Qad l y.1≠Qad l y.2.1) (h2:Qad l z.1=Qad l y.2.1) (h3:Qad l z.2.1≠Qad l y.2.1) :
 ∃ (c:Nat) (x:Qam) (i k:Nat) (v:Int),Qad l y.2.1=(c:Int)∧(gateRow N.ar l)[c]?=some x∧x.1[i]?=some (a:Int)∧x.2[k]?=some (b:Int)∧Qfs N ls (Qgq (gatesOf N.ar ls) (gateRow N.ar l) j c x i k) j l c x i k a b∧cl[Qgq (gatesOf N.ar ls) (gateRow N.ar l) j c x i k]?=some v∧Qgx N (Qeu l (Qad l y.2.1)) a b v:=by
 obtain ⟨_,u,_,e2,_,hu⟩:=Qgj hok hy;have hlv:=hP.lvl l (Zm hl);obtain ⟨c,hc,hcm,_⟩:=Qdp hlv (v:=u) hu;rw [←e2] at hc;have hcl:c<(gateRow N.ar l).length:=by rw [Qau];exact hcm
 obtain ⟨x,hx⟩:∃ x,(gateRow N.ar l)[c]?=some x:=⟨_,Zg hcl⟩;obtain ⟨i,hi⟩:=Yr ((Qdi hx).2 ⟨y,hy,by rw [←hc];exact h1,hc⟩);obtain ⟨k,hk⟩:=Yr ((Qce hx).2 ⟨z,hz,by rw [h2];exact hc,by rw [←hc];exact h3⟩);have he:Qfs N ls (Qgq (gatesOf N.ar ls) (gateRow N.ar l) j c x i k) j l c x i k a b:=⟨hl,hx,hi,hk,rfl⟩;obtain ⟨v,hv,hv2⟩:=h.at_ he;exact ⟨c,x,i,k,v,hc,hx,hi,hk,he,hv,by rw [hc];exact hv2⟩
end
structure NxtP (N:Qak) (ls:List (List Int)) (av:List Int) (a:Nat) (os cs:List Int):Prop where
 len:cs.length=os.length
 to_:∀ (k:Nat) (o v:Int),os[k]?=some o→cs[k]?=some v→∃ (b:Nat) (y:Tri),o=(b:Int)∧N.ar[b]?=some y∧0≤v∧v≤1152921504606846976∧(v≠1152921504606846976→y.2.2≠1152921504606846976→HSt N ls av a b (v+y.2.2))
 all:∀ (b:Nat) (d:Int),HSt N ls av a b d→∃ (k:Nat) (v:Int) (y:Tri),os[k]?=some (b:Int)∧cs[k]?=some v∧N.ar[b]?=some y∧v≠1152921504606846976∧y.2.2≠1152921504606846976∧d=v+y.2.2
section
variable {N:Qak} {ls:List (List Int)} {av:List Int} {s a:Nat}
theorem Qyi (hok:Qas N){x:Tri} (hx:N.ar[a]?=some x) (h0:Qfy ls (toV N a) av=0):NxtP N ls av a (idx (·.1) N.ar x.2.1) ((idx (·.1) N.ar x.2.1).map (fun b=>Qaw N a b.toNat)):=by
 refine ⟨by simp,fun k o v ho hv=>?_,fun b d hd=>?_⟩
 · obtain ⟨b,y,rfl,hy,hf⟩:=Qfm.1 (Zm ho)
   rw [Yt,ho] at hv;have hv':Qaw N a b=v:=by simpa using hv
   subst hv';have hb:=Qcw hok a b;exact ⟨b,y,rfl,hy,by omega,by omega,fun h1 h2=>.inl ⟨h0,y,hy,h1,h2,rfl⟩⟩
 · rcases hd with ⟨_,hd⟩|⟨j,_,_,_,_,hj,_⟩
   · obtain ⟨x',y,hx',hy,e,h1,h2,h3⟩:=hd.ends
     rw [hx] at hx'
     cases hx'
     obtain ⟨k,hk⟩:=Yr (Qfm.2 ⟨b,y,rfl,hy,e.symm⟩:(b:Int)∈idx (·.1) N.ar x.2.1);exact ⟨k,Qaw N a b,y,hk,by rw [Yt,hk];simp,hy,h1,h2,h3⟩
   · omega
theorem Rao (hok:Qas N){cl:List Int}(hA:Qdh N ls cl){j i c:Nat}{l:List Int}{x:Qam}{y:Tri} (hj:Qfy ls (toV N a) av=j+1) (hl:ls[j]?=some l) (hy:N.ar[a]?=some y) (hg:Qad l y.1≠Qad l y.2.1)
 (hc:Qad l y.2.1=(c:Int)) (hx:(gateRow N.ar l)[c]?=some x) (hi:x.1[i]?=some (a:Int)):NxtP N ls av a x.2 ((cl.drop (Qgq (gatesOf N.ar ls) (gateRow N.ar l) j c x i 0)).take x.2.length):=by
 have hat:∀ (k:Nat) (o:Int),x.2[k]?=some o→∃ (b:Nat) (z:Tri) (v:Int),o=(b:Int)∧N.ar[b]?=some z∧Qad l z.1=(c:Int)∧Qad l z.2.1≠(c:Int)∧((cl.drop (Qgq (gatesOf N.ar ls) (gateRow N.ar l) j c x i 0)).take x.2.length)[k]?=some v∧Qgx N (Qeu l c) a b v:=by
  intro k o ho;have hk:=(Zs ho).1;have hm:=Zm ho;obtain ⟨b,rfl⟩:=Qdq hx ho;obtain ⟨z,hz,h1,h2⟩:=(Qce hx).1 hm;obtain ⟨v,hv,hv2⟩:=hA.at_ (show Qfs N ls (Qgq (gatesOf N.ar ls) (gateRow N.ar l) j c x i k) j l c x i k a b from ⟨hl,hx,hi,ho,rfl⟩)
  refine ⟨b,z,v,rfl,hz,h1,h2,?_,hv2⟩;rw [List.getElem?_take_of_lt hk,List.getElem?_drop];rw [←hv]
  congr 1
  unfold Qgq;omega
 have hlen:((cl.drop (Qgq (gatesOf N.ar ls) (gateRow N.ar l) j c x i 0)).take x.2.length).length=x.2.length:=by
  rw [Yw];refine Nat.min_eq_left ?_
  rcases Nat.eq_zero_or_pos x.2.length with h0|h0
  · omega
  · obtain ⟨o,ho⟩:∃ o,x.2[x.2.length-1]?=some o:=⟨_,Zg (by omega)⟩
    obtain ⟨_,_,v,_,_,_,_,hv,_⟩:=hat _ _ ho;rw [List.getElem?_take_of_lt (by omega)] at hv;have:=(Zs hv).1;omega
 refine ⟨hlen,fun k o v ho hv=>?_,fun b d hd=>?_⟩
 · obtain ⟨b,z,v',rfl,hz,h1,h2,h3,h4⟩:=hat k o ho
   rw [hv] at h3
   cases h3
   have hb:=h4.bd hok;refine ⟨b,z,rfl,hz,by omega,by omega,fun g1 g2=>.inr ⟨j,l,y,z,v,hj,hl,hy,hz,hg,by rw [h1,hc],by rw [hc];exact h2,g2,by rw [hc];exact h4,g1,rfl⟩⟩
 · rcases hd with ⟨h0,_⟩|⟨j',l',y',z,v,hj',hl',hy',hz,_,h5,h6,h7,h8,h9,rfl⟩
   · omega
   · rw [hj] at hj'
     obtain rfl:j=j':=by omega
     rw [hl] at hl'
     cases hl'
     rw [hy] at hy'
     cases hy'
     rw [hc] at h5 h6 h8;obtain ⟨k,hk⟩:=Yr ((Qce hx).2 ⟨z,hz,h5,h6⟩);obtain ⟨b',z',v',e,hz',_,_,h3,h4⟩:=hat k _ hk;obtain rfl:b=b':=by omega
     rw [hz] at hz'
     cases hz'
     obtain rfl:=Lst.uniq h8 h4;exact ⟨k,v,z,hk,h3,hz,h9,h7,rfl⟩
inductive Via (N:Qak) (ls:List (List Int)) (av:List Int) (s:Nat) (bf:List Int) (dn:Nat→Option Int):Nat→Int→List (Nat×Nat)→Prop
 | start:Via N ls av s bf dn s 0 []
 | step {p q:Nat} {c d:Int} {hs:List (Nat×Nat)}:Via N ls av s bf dn p c hs→dn p=some c→q≠s→bf[q]?=some (p:Int)→HSt N ls av p q d→Via N ls av s bf dn q (c+d) (hs ++[(p,q)])
inductive HopP (N:Qak) (ls:List (List Int)) (av:List Int) (s:Nat):Nat→Int→List (Nat×Nat)→Prop
 | start:HopP N ls av s s 0 []
 | step {p q:Nat} {c d:Int} {hs:List (Nat×Nat)}:HopP N ls av s p c hs→HSt N ls av p q d→HopP N ls av s q (c+d) (hs ++[(p,q)])
variable {bf:List Int} {dn dn':Nat→Option Int} {q:Nat} {c:Int} {hs:List (Nat×Nat)}
theorem Via.hopP (h:Via N ls av s bf dn q c hs):HopP N ls av s q c hs:=by
 induction h with
 | start=>exact .start
 | step _ _ _ _ h2 ih=>exact ih.step h2
theorem Via.set {r:Nat}{v:Int}(h:Via N ls av s bf dn q c hs)(hq:q≠r)(hr:dn r=none):Via N ls av s (bf.set r v) dn q c hs:=by
 induction h with
 | start=>exact .start
 | @step p q c d hs h1 h2 h3 h4 h5 ih =>
  have hp:p≠r:=fun e=>by subst e;rw [hr] at h2;cases h2
  exact .step (ih hp) h2 h3 (by rw [Yh (fun e=>hq e.symm)];exact h4) h5
theorem Via.more (h:Via N ls av s bf dn q c hs)(hd:∀ r e,dn r=some e→dn' r=some e):Via N ls av s bf dn' q c hs:=by
 induction h with
 | start=>exact .start
 | step _ h2 h3 h4 h5 ih=>exact .step ih (hd _ _ h2) h3 h4 h5
theorem Via.uniq {c':Int} {hs':List (Nat×Nat)} (h:Via N ls av s bf dn q c hs) (g:Via N ls av s bf dn q c' hs'):hs=hs':=by
 induction h generalizing c' hs' with
 | start =>
  cases g with
  | start=>rfl
  | step _ _ h _ _=>exact absurd rfl h
 | step h1 h2 h3 h4 h5 ih =>
  cases g with
  | start=>exact absurd rfl h3
  | step g1 g2 g3 g4 g5 =>
   rw [h4] at g4;have e:=Yv g4;obtain rfl:=Int.ofNat.inj e;rw [ih g1]
noncomputable def Qqr (N:Qak) (ls:List (List Int)) (av:List Int) (s:Nat) (bf:List Int) (dn:Nat→Option Int) (q:Nat):Nat:=by
 classical exact if h:∃ c hs,Via N ls av s bf dn q c hs then (Classical.choose (Classical.choose_spec h)).length else 0
theorem Qph (h:Via N ls av s bf dn q c hs):Qqr N ls av s bf dn q=hs.length:=by
 unfold Qqr;have he:∃ c hs,Via N ls av s bf dn q c hs:=⟨c,hs,h⟩;rw [dif_pos he];exact congrArg List.length ((Classical.choose_spec (Classical.choose_spec he)).uniq h)
structure Rah (N:Qak) (ls:List (List Int)) (av:List Int) (s:Nat) (bf:List Int) (dn hp:Nat→Option Int) (k:Nat):Prop where
 done:∀ q c,dn q=some c→∃ hs,Via N ls av s bf dn q c hs∧hs.length+1≤k
 wait:∀ q c,hp q=some c→∃ hs,Via N ls av s bf dn q c hs∧hs.length≤k
 st:dn s≠none∨(∀ q,dn q=none)∧∀ q,q≠s→hp q=none
theorem Rah.init {hp:Nat→Option Int}(h:∀ q,hp q=if q=s then some 0 else none):Rah N ls av s bf (fun _=>none) hp 0:=by
 refine ⟨fun q c e=>(by cases e),fun q c e=>?_,.inr ⟨fun _=>rfl,fun q hq=>by rw [h q,if_neg hq]⟩⟩
 rw [h q] at e
 split at e
 · rename_i h1
   subst h1
   cases e
   exact ⟨[],.start,Zn _⟩
 · cases e
theorem Rah.take {hp:Nat→Option Int}{p k:Nat}(h:Rah N ls av s bf dn hp k)(hp1:hp p=some c)(hd:dn p=none):Rah N ls av s bf (fun q=>if q=p then some c else dn q) (fun q=>if q=p then none else hp q) (k+1):=by
 have hm:∀ r e,dn r=some e→(fun q=>if q=p then some c else dn q) r=some e:=fun r e hr=>by
  have:r≠p:=fun e'=>by subst e';rw [hd] at hr;cases hr
  simp [this,hr]
 refine ⟨fun q e hq=>?_,fun q e hq=>?_,?_⟩
 · by_cases hqp:q=p
   · subst hqp
     simp at hq;subst hq;obtain ⟨hs,h1,h2⟩:=h.wait q c hp1;exact ⟨hs,h1.more hm,by omega⟩
   · simp [hqp] at hq
     obtain ⟨hs,h1,h2⟩:=h.done q e hq;exact ⟨hs,h1.more hm,by omega⟩
 · by_cases hqp:q=p
   · simp [hqp] at hq
   · simp [hqp] at hq
     obtain ⟨hs,h1,h2⟩:=h.wait q e hq;exact ⟨hs,h1.more hm,by omega⟩
 · left
   by_cases hsp:s=p
   · simp [hsp]
   · simp only [if_neg hsp]
     rcases h.st with h1|h1
     · exact h1
     · exact absurd (h1.2 p (fun e=>hsp e.symm)) (by rw [hp1];exact fun h=>by cases h)
theorem Rah.put {hp hp':Nat→Option Int}{p b k:Nat}{d:Int}(h:Rah N ls av s bf dn hp k)(hp1:dn p=some c)(hb:dn b=none)(hbl:b<bf.length)(hst:HSt N ls av p b d)(h1:∀ r,r≠b→hp' r=hp r) (h2:hp' b=some (c+d)):Rah N ls av s (bf.set b (p:Int)) dn hp' k:=by
 have hs0:dn s≠none:=by
  rcases h.st with g|g
  · exact g
  · rw [g.1 p] at hp1;cases hp1
 refine ⟨fun q e hq=>?_,fun q e hq=>?_,?_⟩
 · obtain ⟨hs,g,g2⟩:=h.done q e hq
   exact ⟨hs,g.set (fun e'=>by subst e';rw [hb] at hq;cases hq) hb,g2⟩
 · by_cases hqb:q=b
   · subst hqb
     rw [h2] at hq
     cases hq
     obtain ⟨hs,g,g2⟩:=h.done p c hp1;have hqs:q≠s:=fun e=>hs0 (by rw [←e];exact hb)
     exact ⟨_,.step (g.set (fun e'=>by subst e';rw [hb] at hp1;cases hp1) hb) hp1 hqs (by rw [Yg hbl]) hst,by rw [Yp,List.length_singleton];exact g2⟩
   · rw [h1 q hqb] at hq
     obtain ⟨hs,g,g2⟩:=h.wait q e hq;exact ⟨hs,g.set hqb hb,g2⟩
 · exact .inl hs0
end
attribute [local go_sem ↓] Go.wp_at_zero Go.wp_at_succ
set_option maxHeartbeats 1000000 in
theorem Qla (o:Nat)(ar:List Tri) (ls:List (List Int)) (w:World) (h:Qfw w o ar ls) (hL:ls.length≤1000000) (hc:∀ l∈ls,l.length≤1000000) :
 Calls prog 58 #[.pointer (some ⟨o,0,none⟩)] w fun e w'=>∃ Q' cq',e=.returned (.agg #[.slice Q' ls.length cq'])∧RdT (msk w' (fun b=>w.heap.size≤b∧b<w'.heap.size)) Q' ls.length ls∧Below w.heap.size w w':=by
 obtain ⟨Q,F,T,G,S,L,m,cq,cf,ct,cg,cs,h⟩:=h;have h0:=h.n0;have hl:ls.length=L:=h.part.1;rw [hl] at hL ⊢;have HT:=Zh h.part;have HC:=Zh hc;have hol:=Qah h0;simp only at hol;clear h hc hl
 go_enter func58,ntmps58
 go_wp2_with fail
 (refine Qab ?_;intro w1 hw1)
 have hb1:Below w.heap.size w w1:=by rw [hw1];exact Qag
 have hR1:Blk w1 w.heap.size 132 #[.slice none 0 0]:=by rw [hw1];exact Qay
 have hz1:w.heap.size+1≤w1.heap.size:=by rw [hw1];simp
 clear hw1;with_reducible refine (Qtz Q L cq ls _ (HT.out.below hb1) hL HC.out).mono ?_
 rintro e w2 ⟨Q',cq',rfl,hrw,_,_,hb2⟩;have hR2:=hR1.below hb2 hR1.lt;have r0:=hR2.cell 0;simp only [Yo,Yn] at r0;have f0:=hR2.frozen 0;have hb2':=Zb hb1 hb2
 have HW:=Zh (show RdT (msk (w2.setCell ⟨w.heap.size,0,none⟩ (.slice Q' L cq')) (fun b=>w.heap.size≤b∧b<(w2.setCell ⟨w.heap.size,0,none⟩ (.slice Q' L cq')).heap.size)) Q' L ls from
  hrw.le ((Qbb.set w2 w.heap.size 0 (.slice Q' L cq') (by omega)).msk.trans (Qbe (fun b hb=>⟨by omega,by have:=hb.2;simpa [World.setCell] using this⟩))))
 have hbe:Below w.heap.size w (w2.setCell ⟨w.heap.size,0,none⟩ (.slice Q' L cq')):=hb2'.setCell (Zn _) _;clear hrw hb2 hR1 hb1 h0
 go_wp2_with fail
 refine bodyPost_ret (v:=.agg #[.slice Q' L cq']) (by simp [results,results58,go_sem,r0]) rfl ?_;exact ⟨_,_,rfl,HW.out,hbe⟩
def inR (n:Nat)(v:Int):Prop:=0≤v∧v<(n:Int)
noncomputable def lvI (n:Nat) (ls:List (List Int)) (v a b:Int):Int:=by classical exact if inR n v∧inR n a∧inR n b then (Qfy ls v [a,b]:Int) else 0
theorem Quj {ls:List (List Int)} {v:Int} {av:List Int} {j:Nat} (h:Qdu ls j v av):Qjk ls v av (j+1)=j+1:=by unfold Qjk;rw [if_pos h]
theorem Qoe {ls:List (List Int)} {v:Int} {av:List Int} {j:Nat} (h:¬Qdu ls j v av):Qjk ls v av (j+1)=Qjk ls v av j:=by
 rw [show Qjk ls v av (j+1)=(by classical exact if Qdu ls j v av then j+1 else Qjk ls v av j) from rfl]
 rw [if_neg h]
set_option maxRecDepth 20000 in
set_option maxHeartbeats 2000000 in
theorem Qni (Q:Option Addr)(L cq n:Nat) (ls:List (List Int)) (v a b:Int) (w:World) (h:RdT w Q L ls) (hP:Qbc n ls) :
 Calls prog 80 #[.slice Q L cq,.int .i64 v,.int .i64 a,.int .i64 b] w fun e w'=>e=.returned (.int .i64 (lvI n ls v a b))∧Below w.heap.size w w':=by
 have HT:=Zh h;have HP:=Zh hP;have hL6:L≤6:=by rw [←h.1];exact hP.l6
 have HL1:=Zh (show 1≤L by rw [←h.1];exact hP.l1)
 have HLL:=Zh h.1;have hix0:∀ W,(Instr.index 242 (.agg #[.int .i64 v,.int .i64 a,.int .i64 b]) (.int .i64 0)).run prog W=.ok (.int .i64 v) W:=fun W=>by rfl
 have hix1:∀ W,(Instr.index 242 (.agg #[.int .i64 v,.int .i64 a,.int .i64 b]) (.int .i64 1)).run prog W=.ok (.int .i64 a) W:=fun W=>by rfl
 have hix2:∀ W,(Instr.index 242 (.agg #[.int .i64 v,.int .i64 a,.int .i64 b]) (.int .i64 2)).run prog W=.ok (.int .i64 b) W:=fun W=>by rfl
 clear h hP
 go_enter func80,ntmps80
 go_wp2_with fail
 go_loopw [9] (fun q W=>∃ j:Nat,j≤L∧q=.int .i64 j∧Below w.heap.size w W∧Qfy ls v [a,b]=Qjk ls v [a,b] j∧(j<L→inR n v∧inR n a∧inR n b)) (fun q _=>(intOf q).toNat)
 case atStart=>exact ⟨L,Zn _,rfl,Zr _ _,by unfold Qfy;rw [HLL.out],fun h=>absurd h (Nat.lt_irrefl _)⟩
 case round =>
  obtain ⟨J,hj,rfl,hb,hlv,hin⟩:=hrel;have HB:=Zh hb;have HLV:=Zh hlv;have HIN:=Zh hin;clear hlv hin
  by_cases h0:J=0
  · subst h0
    have e0:¬((1:Int)≤((0:Nat):Int)):=by omega
    clear hb
    have HZ:=Zh (show lvI n ls v a b=0 by
     unfold lvI;rw [if_pos (HIN.out (by have:=HL1.out;omega)),HLV.out]
     rfl)
    exact Kbh
  · obtain ⟨j,hJ⟩:∃ j,J=j+1:=⟨J-1,by omega⟩
    have e0:(1:Int)≤(J:Int):=by omega
    have HJ:=Zh hJ;obtain ⟨qb,qo,A1,n1,c1,l,rfl,hl,k0,k1,_,_⟩:=(HT.out.below hb).at_ (i:=j) (by omega);have hlo:=HP.out.lvl l (Zm hl);obtain rfl:n=n1:=by rw [←k1.1];exact hlo.len.symm
    have e1:(J:Int)-1=(j:Int):=by omega
    have e2:(0:Int)≤(j:Int):=by omega
    have e3:(j:Int)<(L:Int):=by omega
    have wl:IntKind.i64.wrap (j:Int)=(j:Int):=IntWalk.i64_in _ (by omega);have HL:=Zh hl;have HLO:=Zh hlo;have HR:=Zh k1;clear hl hlo k1 hb hJ h0
    go_wp2_with fail
    obtain ⟨wo,hwo⟩:∃ wo,wo=wr:=⟨_,rfl⟩;subst hwo
    go_loopw [28] (fun q W=>∃ i:Nat,i≤3∧q=.int .i64 i∧W=wo∧(0<i→inR n v)∧(1<i→inR n a)∧(2<i→inR n b)) (fun q _=>3-(intOf q).toNat)
    case atStart=>exact ⟨0,by omega,rfl,rfl,fun h=>by omega,fun h=>by omega,fun h=>by omega⟩
    case round =>
     obtain ⟨i,hi,rfl,rfl,h1,h2,h3⟩:=hrel;have H1:=Zh h1;have H2:=Zh h2;have H3:=Zh h3;clear h1 h2 h3
     rcases (by omega:i=0∨i=1∨i=2∨i=3) with rfl|rfl|rfl|rfl
     · skip
       by_cases hx:inR n v
       · have hx0:0≤v:=hx.1
         have hx1:v<(n:Int):=hx.2
         have HX:=Zh hx;clear hx
         go_wp2_with fail
         go_roundw
         case rel=>first|exact ⟨0+1,by omega,by go_num,trivial,(fun _=>HX.out),(fun h=>by omega),(fun h=>by omega)⟩|exact ⟨0+1,by omega,by go_num,rfl,(fun _=>HX.out),(fun h=>by omega),(fun h=>by omega)⟩
         case measure=>simp [intOf]
       · have HZ:=Zh (show lvI n ls v a b=0 by unfold lvI;rw [if_neg (fun h=>hx h.1)])
         by_cases hx0:v<0
         · clear hx
           exact Kbh
         · have hx1:(n:Int)≤v:=by unfold inR at hx;omega
           have hx2:0≤v:=by omega
           clear hx
           exact Kbh
     · skip
       by_cases hx:inR n a
       · have hx0:0≤a:=hx.1
         have hx1:a<(n:Int):=hx.2
         have HX:=Zh hx;clear hx
         go_wp2_with fail
         go_roundw
         case rel=>first|exact ⟨1+1,by omega,by go_num,trivial,(fun _=>H1.out (by omega)),(fun _=>HX.out),(fun h=>by omega)⟩|exact ⟨1+1,by omega,by go_num,rfl,(fun _=>H1.out (by omega)),(fun _=>HX.out),(fun h=>by omega)⟩
         case measure=>simp [intOf]
       · have HZ:=Zh (show lvI n ls v a b=0 by unfold lvI;rw [if_neg (fun h=>hx h.2.1)])
         by_cases hx0:a<0
         · clear hx
           exact Kbh
         · have hx1:(n:Int)≤a:=by unfold inR at hx;omega
           have hx2:0≤a:=by omega
           clear hx
           exact Kbh
     · skip
       by_cases hx:inR n b
       · have hx0:0≤b:=hx.1
         have hx1:b<(n:Int):=hx.2
         have HX:=Zh hx;clear hx
         go_wp2_with fail
         go_roundw
         case rel=>first|exact ⟨2+1,by omega,by go_num,trivial,(fun _=>H1.out (by omega)),(fun _=>H2.out (by omega)),(fun _=>HX.out)⟩|exact ⟨2+1,by omega,by go_num,rfl,(fun _=>H1.out (by omega)),(fun _=>H2.out (by omega)),(fun _=>HX.out)⟩
         case measure=>simp [intOf]
       · have HZ:=Zh (show lvI n ls v a b=0 by unfold lvI;rw [if_neg (fun h=>hx h.2.2)])
         by_cases hx0:b<0
         · clear hx
           exact Kbh
         · have hx1:(n:Int)≤b:=by unfold inR at hx;omega
           have hx2:0≤b:=by omega
           clear hx
           exact Kbh
     · have hv:=H1.out (by omega)
       have ha:=H2.out (by omega);have hb:=H3.out (by omega);have HIR:=Zh (And.intro hv (And.intro ha hb));unfold inR at hv ha hb;obtain ⟨vn,rfl⟩:∃ vn:Nat,v=(vn:Int):=⟨v.toNat,by omega⟩;obtain ⟨an,rfl⟩:∃ vn:Nat,a=(vn:Int):=⟨a.toNat,by omega⟩;obtain ⟨bn,rfl⟩:∃ vn:Nat,b=(vn:Int):=⟨b.toNat,by omega⟩;obtain ⟨lb,lo,zv,rfl,hzv,cv⟩:=HR.out.at_ (i:=vn) (by omega);obtain ⟨_,_,za,ea,hza,ca⟩:=HR.out.at_ (i:=an) (by omega)
       cases ea
       obtain ⟨_,_,zb,eb,hzb,cb⟩:=HR.out.at_ (i:=bn) (by omega)
       cases eb
       have p1:(0:Int)≤(vn:Int):=by omega
       have p2:(0:Int)≤(an:Int):=by omega
       have p3:(0:Int)≤(bn:Int):=by omega
       have p4:(vn:Int)<(n:Int):=by omega
       have p5:(an:Int)<(n:Int):=by omega
       have p6:(bn:Int)<(n:Int):=by omega
       have HAP:=Zh (show Qdu ls j (vn:Int) [(an:Int),(bn:Int)]↔zv≠za∧zv≠zb from by
        constructor
        · rintro ⟨l',hl',g⟩
          rw [HL.out] at hl'
          exact Kcb
        · rintro ⟨g1,g2⟩
          refine ⟨l,HL.out,fun x hx=>?_⟩;rw [List.mem_cons,List.mem_cons] at hx
          rcases hx with rfl|rfl|hx
          · rw [Qat hzv,Qat hza];exact g1
          · rw [Qat hzv,Qat hzb];exact g2
          · cases hx)
       clear hv ha hb hzv hza hzb
       go_wp2_with fail
       refine wp_region_held_drew (S:=fun V=>V=wr.drew) (by kernel_rfl) rfl (fun _=>?_)
       by_cases h1:zv=za
       · have e4:(zv != za)=false:=by simp [h1]
         have HNA:=Zh (show ¬Qdu ls j (vn:Int) [(an:Int),(bn:Int)] from fun h=>(HAP.out.1 h).1 h1)
         clear h1;refine tz 0 40 ?_;refine tz 1 41 ?_;refine tz 2 42 ?_;refine tz 3 43 ?_;refine tz 4 44 ?_;refine tz 5 45 ?_;refine tz 6 46 ?_;refine tz 7 47 ?_;refine tz 8 48 ?_;refine tz 9 49 ?_;refine tw 10 50 ?_;refine tw 11 51 ?_;refine tw 12 52 ?_;refine tw 13 53 ?_;refine tw 14 54 ?_;refine tw 15 55 ?_;refine tw 16 56 ?_;refine tw 17 57 ?_;refine tw 18 58 ?_;refine tz 19 59 ?_;refine Zd ?_;have HLN:=Zh (Qoe HNA.out);have HB2:=Zh (HB.out.trans ((Zr _ _).drew.mono HB.out.size))
         exact Kcg
       · have e4:(zv != za)=true:=by simp [h1]
         by_cases h2:zv=zb
         · have e5:(zv != zb)=false:=by simp [h2]
           have HNA:=Zh (show ¬Qdu ls j (vn:Int) [(an:Int),(bn:Int)] from fun h=>(HAP.out.1 h).2 h2)
           clear h1 h2;refine tz 0 40 ?_;refine tz 1 41 ?_;refine tz 2 42 ?_;refine tz 3 43 ?_;refine tz 4 44 ?_;refine tz 5 45 ?_;refine tz 6 46 ?_;refine tz 7 47 ?_;refine tz 8 48 ?_;refine tz 9 49 ?_;refine tz 10 50 ?_;refine tz 11 51 ?_;refine tz 12 52 ?_;refine tz 13 53 ?_;refine tz 14 54 ?_;refine tz 15 55 ?_;refine tz 16 56 ?_;refine tz 17 57 ?_;refine tz 18 58 ?_;refine tz 19 59 ?_;refine Zd ?_;have HLN:=Zh (Qoe HNA.out);have HB2:=Zh (HB.out.trans ((Zr _ _).drew.mono HB.out.size))
           exact Kcg
         · have e5:(zv != zb)=true:=by simp [h2]
           have HYA:=Zh (Quj (HAP.out.2 ⟨h1,h2⟩));clear h1 h2;refine tz 0 40 ?_;refine tz 1 41 ?_;refine tz 2 42 ?_;refine tz 3 43 ?_;refine tz 4 44 ?_;refine tz 5 45 ?_;refine tz 6 46 ?_;refine tz 7 47 ?_;refine tz 8 48 ?_;refine tz 9 49 ?_;refine tz 10 50 ?_;refine tz 11 51 ?_;refine tz 12 52 ?_;refine tz 13 53 ?_;refine tz 14 54 ?_;refine tz 15 55 ?_;refine tz 16 56 ?_;refine tz 17 57 ?_;refine tz 18 58 ?_;refine tz 19 59 ?_;refine Zd ?_;have HB2:=Zh (HB.out.trans ((Zr _ _).drew.mono HB.out.size));have HZ:=Zh (show lvI n ls (vn:Int) (an:Int) (bn:Int)=(J:Int) by unfold lvI;rw [if_pos HIR.out,HLV.out,HJ.out,HYA.out])
           go_wp2_with fail
           go_ret
           rw [HZ.out];exact ⟨rfl,HB2.out⟩
def LeapQ (N:Qak) (ls:List (List Int)) (lv:Int) (a b:Nat):Prop:=∃ (j:Nat) (l:List Int) (y z:Tri),lv=(j:Int)+1∧ls[j]?=some l∧N.ar[a]?=some y∧N.ar[b]?=some z∧Qad l y.1≠Qad l y.2.1∧Qad l z.1=Qad l y.2.1∧Qad l z.2.1≠Qad l y.2.1
def Qox (N:Qak) (ls:List (List Int)) (lv f t v:Int):Prop :=
 (∃ (a b:Nat) (y z:Tri),f=(a:Int)∧t=(b:Int)∧N.ar[a]?=some y∧N.ar[b]?=some z∧lv=0∧v=Qdz (Qaw N a b) z.2.2) ∨
 (∃ (a b j:Nat) (l:List Int) (y z:Tri) (e:Int),f=(a:Int)∧t=(b:Int)∧lv=(j:Int)+1∧ls[j]?=some l∧N.ar[a]?=some y∧N.ar[b]?=some z∧Qad l y.1≠Qad l y.2.1∧Qad l z.1=Qad l y.2.1∧Qad l z.2.1≠Qad l y.2.1∧Qgx N (Qeu l (Qad l y.2.1)) a b e∧v=Qdz e z.2.2) ∨
 (v=1152921504606846976∧∀ (a b:Nat),f=(a:Int)→t=(b:Int)→a<N.ar.length→b<N.ar.length→lv≠0∧¬LeapQ N ls lv a b)
theorem Qox.uniq {N:Qak} {ls:List (List Int)} {lv f t v w:Int} (h:Qox N ls lv f t v) (g:Qox N ls lv f t w):v=w:=by
 rcases h with ⟨a,b,y,z,rfl,rfl,hy,hz,rfl,rfl⟩|⟨a,b,j,l,y,z,e,rfl,rfl,rfl,hl,hy,hz,h1,h2,h3,h4,rfl⟩|⟨rfl,hn⟩
 · rcases g with ⟨a',b',y',z',e1,e2,hy',hz',_,rfl⟩|⟨a',b',j',l',y',z',e',e1,e2,e3,_⟩|⟨rfl,gn⟩
   · obtain rfl:=Int.ofNat.inj e1
     obtain rfl:=Int.ofNat.inj e2;rw [hz] at hz'
     cases hz'
     rfl
   · omega
   · exact absurd rfl (gn a b rfl rfl (Zs hy).1 (Zs hz).1).1
 · rcases g with ⟨a',b',y',z',e1,e2,hy',hz',e3,rfl⟩|⟨a',b',j',l',y',z',e',e1,e2,e3,hl',hy',hz',g1,g2,g3,g4,rfl⟩|⟨rfl,gn⟩
   · omega
   · obtain rfl:=Int.ofNat.inj e1
     obtain rfl:=Int.ofNat.inj e2;obtain rfl:j=j':=by omega
     rw [hl] at hl'
     cases hl'
     rw [hy] at hy'
     cases hy'
     rw [hz] at hz'
     cases hz'
     rw [Lst.uniq h4 g4]
   · exact absurd ⟨j,l,y,z,rfl,hl,hy,hz,h1,h2,h3⟩ (gn a b rfl rfl (Zs hy).1 (Zs hz).1).2
 · rcases g with ⟨a',b',y',z',rfl,rfl,hy',hz',rfl,rfl⟩|⟨a',b',j',l',y',z',e',rfl,rfl,rfl,hl',hy',hz',g1,g2,g3,g4,rfl⟩|⟨rfl,gn⟩
   · exact absurd rfl (hn a' b' rfl rfl (Zs hy').1 (Zs hz').1).1
   · exact absurd ⟨j',l',y',z',rfl,hl',hy',hz',g1,g2,g3⟩ (hn a' b' rfl rfl (Zs hy').1 (Zs hz').1).2
   · rfl
theorem Qpy {N:Qak} {ls:List (List Int)} (hok:Qas N) (hP:Qbc N.vs.length ls) {j a b:Nat} {l:List Int} {y z:Tri} (hl:ls[j]?=some l) (hy:N.ar[a]?=some y) (hz:N.ar[b]?=some z)
 (h1:Qad l y.1≠Qad l y.2.1) (h2:Qad l z.1=Qad l y.2.1) (h3:Qad l z.2.1≠Qad l y.2.1) :
 ∃ (c p q k:Nat) (x:Qam),Qad l y.2.1=(c:Int)∧(gateRow N.ar l)[c]?=some x∧plI x.1 (a:Int)=(p:Int)∧plI x.2 (b:Int)=(q:Int)∧x.1[p]?=some (a:Int)∧x.2[q]?=some (b:Int)∧Qfs N ls k j l c x p q a b:=by
 obtain ⟨u,v,_,e3,_,hv⟩:=Qgj hok hy;obtain ⟨c,hc,hcm,_⟩:=Qdp (hP.lvl l (Zm hl)) hv;rw [←e3] at hc;obtain ⟨x,hx⟩:∃ x,(gateRow N.ar l)[c]?=some x:=⟨_,Qco hcm⟩;rw [hc] at h1 h2 h3;obtain ⟨p,hp,hp2⟩:=Qgg ((Qdi hx).2 ⟨y,hy,h1,hc⟩);obtain ⟨q,hq,hq2⟩:=Qgg ((Qce hx).2 ⟨z,hz,h2,h3⟩);exact ⟨c,p,q,_,x,hc,hx,hp,hq,hp2,hq2,hl,hx,hp2,hq2,rfl⟩
def Qar:Qak:=⟨[(0,0,1),(1,0,0),(2,0,0),(3,0,0),(4,0,0),(5,0,2)],[(0,1,10),(1,2,10),(2,3,10),(3,4,10),(4,5,10)],[⟨1,1,[1]⟩,⟨0,1,[]⟩,⟨1,0,[]⟩]⟩
def Qbf:List (List Int):=[[0,0,1,1,2,2]]
theorem Qda:Qas Qar:=by
 refine ⟨by decide,by decide,by decide,?_,?_,?_,?_⟩
 · intro t ht
   simp only [Qar,List.mem_cons,List.not_mem_nil,or_false] at ht
   rcases ht with rfl|rfl|rfl <;> exact ⟨by decide,by decide,by decide,by decide,by decide,by decide⟩
 · intro t ht
   simp only [Qar,List.mem_cons,List.not_mem_nil,or_false] at ht
   rcases ht with rfl|rfl|rfl|rfl|rfl|rfl <;> exact ⟨by decide,by decide,by decide,by decide⟩
 · intro t ht
   simp only [Qar,List.mem_cons,List.not_mem_nil,or_false] at ht
   rcases ht with rfl|rfl|rfl|rfl|rfl <;> exact ⟨by decide,by decide,by decide,by decide,by decide⟩
 · intro i v t hv ht
   have hi:i<6:=(Zs hv).1
   rcases (by omega:i=0∨i=1∨i=2∨i=3∨i=4∨i=5) with rfl|rfl|rfl|rfl|rfl|rfl
   all_goals
    simp only [Qar,Yn,List.getElem?_cons_succ,Option.some.injEq] at hv;subst hv
    revert ht
    simp only [Qar,show (1:Int).toNat=1 from rfl,show (2:Int).toNat=2 from rfl,show (0:Int).toNat=0 from rfl,Yn,List.getElem?_cons_succ,Option.some.injEq]
    rintro rfl;exact ⟨by decide,by decide⟩
theorem Qcn:Qbc Qar.vs.length Qbf:=by
 refine ⟨by decide,by decide,?_,?_⟩
 · intro l hl
   simp only [Qbf,List.mem_cons,List.not_mem_nil,or_false] at hl;subst hl;refine ⟨by decide,by decide,by decide,?_⟩;intro c hc;have hm:Qav [0,0,1,1,2,2]=3:=by decide
   rw [hm] at hc
   rcases (by omega:c=0∨c=1∨c=2) with rfl|rfl|rfl <;> decide
 · intro i p l hp hl
   have hi:i+1<1:=(Zs hl).1
   omega
theorem Qzb {a:Nat}{y:Tri} (h:Qar.ar[a]?=some y):a≤4∧y=((a:Int),(a:Int)+1,10):=by
 match a,h with
 | 0,h=>cases h;exact ⟨by omega,rfl⟩
 | 1,h=>cases h;exact ⟨by omega,rfl⟩
 | 2,h=>cases h;exact ⟨by omega,rfl⟩
 | 3,h=>cases h;exact ⟨by omega,rfl⟩
 | 4,h=>cases h;exact ⟨by omega,rfl⟩
 | k+5,h=>simp [Qar] at h
theorem ch_t (a:Nat)(h:a≤3):Qaw Qar a (a+1)=1:=by
 rcases (by omega:a=0∨a=1∨a=2∨a=3) with rfl|rfl|rfl|rfl <;> decide
theorem ch_turn {a b:Nat}(h:Qaw Qar a b≠1152921504606846976):a≤3∧b=a+1:=by
 obtain ⟨x,y,hx,hy,e⟩:=Qcg h;obtain ⟨h1,rfl⟩:=Qzb hx;obtain ⟨h2,rfl⟩:=Qzb hy;simp only at e;exact ⟨by omega,by omega⟩
theorem Qno {a b:Nat}{d:Int}:StW Qar a b d↔a≤3∧b=a+1∧d=11:=by
 constructor
 · rintro ⟨y,hy,h1,_,rfl⟩
   obtain ⟨h3,rfl⟩:=ch_turn h1;obtain ⟨_,rfl⟩:=Qzb hy;refine ⟨h3,rfl,?_⟩;rw [ch_t a h3];exact (by decide:(1:Int)+10=11)
 · rintro ⟨h1,rfl,rfl⟩
   refine ⟨((a:Int)+1,(a:Int)+1+1,10),?_,?_,(by decide:(10:Int)≠1152921504606846976),by rw [ch_t a h1];exact (by decide:(11:Int)=1+10)⟩
   · rcases (by omega:a=0∨a=1∨a=2∨a=3) with rfl|rfl|rfl|rfl <;> rfl
   · rw [ch_t a h1]
     decide
theorem ch_rch {s p:Nat}{c:Int} (h:Rch (StW Qar) s p c):s≤p∧c=11*((p:Int)-(s:Int))∧(p=s∨p≤4):=by
 induction h with
 | start=>exact ⟨Zn _,by omega,.inl rfl⟩
 | step _ h2 ih =>
  obtain ⟨h3,rfl,rfl⟩:=Qno.1 h2;exact ⟨by omega,by omega,.inr (by omega)⟩
theorem ch_to (p:Nat)(h:p≤4):Rch (StW Qar) 0 p (11*(p:Int)):=by
 induction p with
 | zero=>exact .start
 | succ p ih =>
  have:=(ih (by omega)).step (Qno.2 ⟨by omega,rfl,rfl⟩);rw [show 11*((p+1:Nat):Int)=11*(p:Int)+11 by omega]
  exact this
theorem Qxa:Lst (Rch (StW Qar) 0 4) 44:=.inl ⟨ch_to 4 (by omega),fun c hc=>by have:=ch_rch hc;omega⟩
theorem ch_none:Lst (Rch (StW Qar) 4 0) 1152921504606846976:=.inr ⟨rfl,fun c hc=>by have:=ch_rch hc;omega⟩
theorem ch_gr:gateRow Qar.ar [0,0,1,1,2,2]=[([],[1]),([1],[3]),([3],[])]:=by decide
theorem Qta:gatesOf Qar.ar Qbf=[[([],[1]),([1],[3]),([3],[])]]:=by unfold gatesOf Qbf;rw [List.map_cons,ch_gr];rfl
theorem Qmx:Qca (gatesOf Qar.ar Qbf)=1:=by rw [Qta];decide
theorem Qxn:Qgx Qar (Qeu [0,0,1,1,2,2] 1) 1 3 12:=by
 have hst:∀ {a b d},StA Qar (Qeu [0,0,1,1,2,2] 1) a b d→a=1∧b=2∧d=11:=fun {a b d} h=>by
  obtain ⟨h1,rfl,rfl⟩:=Qno.1 h.all;obtain ⟨y,hy,_,_,h3,h4,_⟩:=h
  rcases (by omega:a=0∨a=1∨a=2∨a=3) with rfl|rfl|rfl|rfl
  · cases hy;exact absurd h3 (by decide)
  · exact ⟨rfl,rfl,rfl⟩
  · cases hy;exact absurd h4 (by decide)
  · cases hy;exact absurd h3 (by decide)
 have hr:∀ p c,Rch (StA Qar (Qeu [0,0,1,1,2,2] 1)) 1 p c→p=1∧c=0∨p=2∧c=11:=by
  intro p c h
  induction h with
  | start=>exact .inl ⟨rfl,rfl⟩
  | step _ h2 ih =>
   obtain ⟨rfl,rfl,rfl⟩:=hst h2
   rcases ih with ⟨_,rfl⟩|⟨h,_⟩
   · exact .inr ⟨rfl,by decide⟩
   · exact absurd h (by decide)
 refine .inl ⟨⟨2,11,1,?_,⟨by decide,by decide⟩,rfl⟩,fun v hv=>?_⟩
 · exact Rch.start.step (show StA Qar (Qeu [0,0,1,1,2,2] 1) 1 2 11 from ⟨(2,3,10),rfl,by decide,by decide,by decide,by decide,by decide⟩)
 · obtain ⟨p,c,d,h1,⟨h2,rfl⟩,rfl⟩:=hv
   rcases hr p c h1 with ⟨rfl,rfl⟩|⟨rfl,rfl⟩
   · exact absurd (by decide) h2
   · rw [ch_t 2 (by omega)];decide
theorem Qkf:Qdh Qar Qbf [12]:=by
 refine ⟨by rw [Qmx];rfl,fun k v hk=>?_⟩
 match k,hk with
 | 0,hk =>
  cases hk
  exact ⟨0,[0,0,1,1,2,2],1,([1],[3]),0,0,1,3,⟨rfl,by rw [ch_gr];rfl,rfl,rfl,by rw [Qta,ch_gr];decide⟩,Qxn⟩
 | k+1,hk=>simp at hk
theorem ch_lv1:Qfy Qbf 2 [0,5]=1:=by
 have h:=Qhl (ls:=Qbf) (v:=2) (av:=[0,5]) (j:=0) ⟨_,rfl,by decide⟩;have:=Qiw (ls:=Qbf) (v:=2) (av:=[0,5]) 1;unfold Qfy at h ⊢;exact Nat.le_antisymm this h
theorem ch_lv0:Qfy Qbf 2 [3,5]=0:=by
 cases h:Qfy Qbf 2 [3,5] with
 | zero=>rfl
 | succ j =>
  have hj:=Qiw (ls:=Qbf) (v:=2) (av:=[3,5]) 1;have h2:Qjk Qbf 2 [3,5] 1=j+1:=h;obtain rfl:j=0:=by omega
  obtain ⟨l,hl,h1⟩:=Qdl h
  cases hl
  exact absurd (by decide) (h1 3 (by decide))
set_option maxHeartbeats 400000 in
theorem Qto (A:Option Addr)(n c:Nat)(l:List Int)(w:World)(h:RdI w A n l)(hn:n≤1000000)(hb:∀ x∈l,0≤x∧x≤1000000) :
 Calls prog 159 #[.slice A n c] w fun e w'=>e=.returned (.int .i64 (Qav l))∧w=w':=by
 have HR:=Zh h;have HL:=Zh h.1;have HB:=Zh hb;clear h hb
 go_enter func159,ntmps159
 go_wp2_with fail
 go_loop [3,4] (fun m q=>∃ k:Nat,k≤n∧q=.int .i64 k∧m=.int .i64 (Qav (l.take k))) (fun _ q=>n-(intOf q).toNat)
 case atStart=>exact ⟨0,Nat.zero_le _,rfl,rfl⟩
 case round =>
  obtain ⟨k,hk,rfl,rfl⟩:=hrel
  by_cases hlt:k<n
  · obtain ⟨b,o,x,rfl,hx,hc⟩:=HR.out.at_ hlt
    have hxb:=HB.out x (Zm hx);have HNX:=Zh (Qgp hx);have i1:(0:Int)≤(k:Int):=by omega
    have i2:(k:Int)<(n:Int):=by omega
    clear hx;generalize Qav (l.take k)=m at *;have HM:=Zh (show (if m<x+1 then x+1 else m)=max m (x+1) by split <;> omega)
    go_wp2_with fail
    go_round
    case rel=>exact ⟨k+1,by omega,by go_num,by rw [HNX.out,←HM.out]⟩
    case measure=>simp [intOf];omega
  · obtain rfl:n=k:=by omega
    have HE:=Zh (show Qav (l.take n)=Qav l by rw [Ye (by rw [HL.out];exact Zn _)])
    go_wp2
    go_ret
    exact ⟨Qcf HE.out,rfl⟩
def Qfx (ls:List (List Int)) (i:Nat):Option (List Int):=if i=0 then none else ls[i-1]?
theorem Qsf (ls:List (List Int)):Qfx ls 0=none:=rfl
theorem Qhh (ls:List (List Int)) (j:Nat):Qfx ls (j+1)=ls[j]?:=rfl
theorem Qrf {n:Nat} {p:Option (List Int)} {l:List Int} (h:l.length≠n):Qfa n p l=1:=by unfold Qfa;rw [if_pos h]
theorem Qiz {n:Nat} {p:Option (List Int)} {l:List Int} (h:l.length=n) (hn:¬(Qfz n l∧∀ q,p=some q→Qdx q l)):Qfa n p l=10:=by
 unfold Qfa;rw [if_neg (fun e=>e h),if_neg hn]
theorem Qmp {n:Nat} {p:Option (List Int)} {l:List Int} (h:Qfz n l) (hn:∀ q,p=some q→Qdx q l):Qfa n p l=0:=by
 unfold Qfa;rw [if_neg (fun e=>e h.len),if_pos ⟨h,hn⟩]
set_option maxHeartbeats 2000000 in
set_option maxRecDepth 20000 in
theorem Qlr (Q:Option Addr)(n L cq i:Nat) (ls:List (List Int)) (l:List Int) (w:World) (h:RdT w Q L ls) (hl:ls[i]?=some l) (hn:n≤4096) (hL:L≤1000000) (hprev:∀ j p,i=j+1→ls[j]?=some p→p.length=n) :
 Calls prog 135 #[.int .i64 n,.agg #[.slice Q L cq],.int .i64 ((i:Int)+1),.slice none 0 0] w fun e w'=>e=.returned (.int .i64 (Qfa n (Qfx ls i) l))∧Below w.heap.size w w':=by
 have hi:i<L:=by rw [←h.1];exact (Zs hl).1
 have HT:=Zh h;obtain ⟨b,o,A,m,c,l',rfl,hl',hc,hr,q1,q2⟩:=h.at_ hi;rw [hl] at hl'
 cases hl'
 have HR:=Zh hr;have HLEN:=Zh hr.1;have HLL:=Zh hl;have HPV:=Zh hprev;have hca:=fun ob=>Zc (show Below w.heap.size w (w.alloc ob) from Qag) (Zn _) hc
 have i1:(0:Int)≤(i:Int):=by omega
 have i2:(i:Int)<(L:Int):=by omega
 have i5:(i:Int)+1-1=(i:Int):=by omega
 have hmk:=Qdo n (by omega);clear h hr hl hprev q1
 by_cases hmn:m=n
 rotate_left
 · have e1:((m:Int) != (n:Int))=true:=by simp;omega
   have e2:((m:Int) == (n:Int))=false:=by simp;omega
   have HC:=Zh (Qrf (n:=n) (p:=Qfx ls i) (l:=l) (by rw [HLEN.out];exact hmn))
   go_enter func135,ntmps135
   go_wp2_with fail
   go_ret
   exact ⟨Qcf HC.out.symm,Qag⟩
 subst hmn
 go_enter func135,ntmps135
 go_wp2_with fail
 (refine Qai ?_;intro w1 hw1)
 have hb1:Below w.heap.size w w1:=by rw [hw1];exact Qag
 have hQ:Blk w1 w.heap.size 29 #[.slice (some ⟨b,o,none⟩) L cq]:=by rw [hw1];exact Qay
 have HR1:=Zh (HR.out.below hb1);clear hw1 hca
 go_loop [10] (fun q=>∃ k:Nat,k≤m∧q=.int .i64 k∧∀ j x,j<k→l[j]?=some x→0≤x∧x<m) (fun q=>m-(intOf q).toNat)
 case atStart=>exact ⟨0,Nat.zero_le _,rfl,fun _ _ h=>absurd h (Nat.not_lt_zero _)⟩
 case round =>
  obtain ⟨k,hk,rfl,hall⟩:=hrel;have HA:=Zh hall;clear hall
  by_cases hlt:k<m
  · obtain ⟨b',o',x,rfl,hx,hcx⟩:=HR1.out.at_ hlt
    have j1:(0:Int)≤(k:Int):=by omega
    have j2:(k:Int)<(m:Int):=by omega
    have HX:=Zh hx;clear hx
    by_cases hok:0≤x∧x<m
    · have g0:=hok.1
      have g1:=hok.2;have HOK:=Zh hok;clear hok
      go_wp2_with fail
      go_round
      case rel=>exact ⟨k+1,by omega,by go_num,fun j y hj hy=>by
       by_cases e:j=k
       · subst e
         rw [HX.out] at hy
         cases hy
         exact HOK.out
       · exact HA.out j y (by omega) hy⟩
      case measure=>simp [intOf];omega
    · have HC:=Zh (Qiz (n:=m) (p:=Qfx ls i) (l:=l) HLEN.out (fun hh=>hok ⟨hh.1.lo x (Zm HX.out),hh.1.hi x (Zm HX.out)⟩))
      by_cases hx0:x<0
      · clear hok
        go_wp2_with fail
        go_ret
        exact ⟨Qcf HC.out.symm,hb1⟩
      · have hx1:¬x<m:=by omega
        have hx2:x ≥ m:=by omega
        clear hok
        go_wp2_with fail
        go_ret
        exact ⟨Qcf HC.out.symm,hb1⟩
  · obtain rfl:m=k:=by omega
    have HN:=Zh (show ∀ x∈l,0≤x∧x<m from fun x hx=>by
     obtain ⟨j,hj⟩:=Yr hx;exact HA.out j x (by rw [←HLEN.out];exact (Zs hj).1) hj)
    clear HA
    go_wp2_with fail
    (refine Qai ?_;intro w2 hw2)
    have hb2:Below w1.heap.size w1 w2:=by rw [hw2];exact Qag
    have hQ2:=hQ.below hb2 hQ.lt;have hB2:Blk w2 w1.heap.size 3 (Qcs (Qqw (l.take 0) m)):=by rw [hw2,List.take_zero,Qpi];exact Blk.new _ _ _
    have hbw2:=Zb hb1 hb2;have hz12:=hb1.size;clear hw2 hmk
    go_loopw [12] (fun q W=>Below w1.heap.size w1 W∧∃ k:Nat,k≤m∧q=.int .i64 k∧Blk W w1.heap.size 3 (Qcs (Qqw (l.take k) m))) (fun q _=>m-(intOf q).toNat)
    case atStart=>exact ⟨hb2,0,Nat.zero_le _,rfl,hB2⟩
    case round =>
     clear hb2 hB2 hQ2 hbw2;obtain ⟨hbl,k,hk,rfl,hB⟩:=hrel
     by_cases hlt2:k<m
     · obtain ⟨b',o',x,rfl,hx,hcx⟩:=HR1.out.at_ hlt2
       have hxx:=HN.out x (Zm hx);obtain ⟨v,rfl⟩:∃ v:Nat,x=v:=⟨x.toNat,by omega⟩;have hv:v<m:=by omega
       have hcx2:=Zc hbl (Zn _) hcx;have c1:=hB.cellI (Qeq (l:=l.take k) hv);have c1f:=hB.frozen v;have d1:=Qzp l k (v:Int);have HBN:=Zh (hB.setI (Qqb hx hv));have j1:(0:Int)≤(k:Int):=by omega
       have j2:(k:Int)<(m:Int):=by omega
       have j3:(0:Int)≤(v:Int):=by omega
       have j4:(v:Int)<(m:Int):=by omega
       clear hx hcx hB hxx;generalize (l.take k).countP (fun x=>x == (v:Int))=p at *;have hbn:Below w1.heap.size w1 (wr.setCell ⟨w1.heap.size,v,none⟩ (.int .i64 ((p:Int)+1))):=hbl.setCell (Zn _) _
       go_wp2_with fail
       go_roundw
       case rel=>exact ⟨hbn,k+1,by omega,by go_num,HBN.out⟩
       case measure=>simp [intOf];omega
     · obtain rfl:m=k:=by omega
       rw [Ye (by rw [HLEN.out];exact Zn _)] at hB;have m0:=Qch l;have m1:=Qcm (l:=l) (n:=(m:Int)) (fun x hx=>(HN.out x hx).2) (by omega);obtain ⟨w3,hw3⟩:∃ w3,w3=wr:=⟨_,rfl⟩;subst hw3;have hbw3:=Zb hb1 hbl;have HMO:=Zh (Qto A m c l w3 (HR.out.below hbw3) (by omega) (fun x hx=>by have:=HN.out x hx;omega));obtain ⟨M,hM⟩:∃ M:Nat,Qav l=M:=⟨(Qav l).toNat,by omega⟩;rw [hM] at HMO m0 m1;have HMM:=Zh hM;clear hM
       go_wp2_with fail
       go_loop [13] (fun q=>∃ k:Nat,k≤M∧q=.int .i64 k∧∀ c:Nat,c<k→(c:Int)∈l) (fun q=>M-(intOf q).toNat)
       case atStart=>exact ⟨0,Nat.zero_le _,rfl,fun _ h=>absurd h (Nat.not_lt_zero _)⟩
       case round =>
        obtain ⟨k,hk,rfl,hall⟩:=hrel;have HA:=Zh hall;clear hall
        go_wp2_with fail
        with_reducible refine HMO.out.mono ?_
        rintro e w' ⟨rfl,rfl⟩
        by_cases hlt3:k<M
        · have hkm:k<m:=by omega
          have c1:=hB.cellI (Qeq (l:=l) hkm);have j1:(0:Int)≤(k:Int):=by omega
          have j2:(k:Int)<(m:Int):=by omega
          have HCT:=Zh (show 0<l.countP (fun x=>x == (k:Int))↔(k:Int)∈l from by rw [List.countP_pos_iff];simp)
          generalize l.countP (fun x=>x == (k:Int))=p at *
          by_cases hp:p=0
          · subst hp
            have HC:=Zh (Qiz (n:=m) (p:=Qfx ls i) (l:=l) HLEN.out (fun hh=>by
             have:=HCT.out.2 (hh.1.all k (by rw [HMM.out];omega));omega))
            go_wp2_with fail
            go_ret
            exact ⟨Qcf HC.out.symm,hbw3⟩
          · have e1:((p:Int) == 0)=false:=by simp;exact hp
            have HP:=Zh (HCT.out.1 (by omega));clear hp
            go_wp2_with fail
            go_round
            case rel=>exact ⟨k+1,by omega,by go_num,fun c hc=>by
             by_cases e:c=k
             · subst e;exact HP.out
             · exact HA.out c (by omega)⟩
            case measure=>simp [intOf];omega
        · obtain rfl:M=k:=by omega
          have HLV:=Zh (show Qfz m l from ⟨HLEN.out,fun x hx=>(HN.out x hx).1,fun x hx=>(HN.out x hx).2,fun c hc=>HA.out c (by rw [HMM.out] at hc;omega)⟩)
          have hQ3:=hQ.below hbl hQ.lt;clear HA HN hB;have q0:=hQ3.cell 0;simp only [Yo,Yn] at q0;have HRw:=Zh (HR.out.below hbw3)
          by_cases hi0:i=0
          · have HC:=Zh (Qmp (n:=m) (p:=Qfx ls i) HLV.out (fun q hq=>by rw [hi0,Qsf] at hq;cases hq))
            have e1:¬((i:Int)+1 > 1):=by omega
            have e2:¬(0<i):=by omega
            have e3:¬((i:Int) > 0):=by omega
            clear hi0;have hb99:Below w3.heap.size w3 w3:=Zr _ _
            by_cases hm0:0<m
            · skip
              exact Kcn
            · skip
              exact Kcn
          · obtain ⟨j,rfl⟩:∃ j,i=j+1:=⟨i-1,by omega⟩
            obtain ⟨bp,op,A',m',c',p,e,hp,hcp,hrp,q1',q2'⟩:=HT.out.at_ (show j<L by omega)
            cases e
            obtain rfl:m=m':=by rw [←hrp.1];exact (HPV.out j p rfl hp).symm
            have HPP:=Zh hp;have HRp:=Zh (hrp.below hbw3);have HCP:=Zh (Zc hbw3 (Zn _) hcp);have i3:((j:Int)+1+1)-2=(j:Int):=by omega
            have i4:(0:Int)≤(j:Int):=by omega
            have i6:(j:Int)<(L:Int):=by omega
            have i7:(j:Int)+1+1 > 1:=by omega
            have HLp:=Zh hrp.1;clear hrp hp hcp q1' hi0
            go_wp2_with fail
            go_loopw [14] (fun q W=>Below w3.heap.size w3 W∧∃ k:Nat,k≤m∧q=.int .i64 k∧∀ (a v:Nat) (x y u z:Int),a<k→p[a]?=some x→p[v]?=some y→l[a]?=some u→l[v]?=some z→x≤y→u≤z) (fun q _=>m-(intOf q).toNat)
            case atStart=>exact ⟨Zr _ _,0,Nat.zero_le _,rfl,fun _ _ _ _ _ _ h=>absurd h (Nat.not_lt_zero _)⟩
            case round =>
             obtain ⟨hbr,k,hk,rfl,hall⟩:=hrel;have HA:=Zh hall;clear hall
             by_cases hlt4:k<m
             · obtain ⟨pb,po,x,rfl,hx,hcx⟩:=HRp.out.at_ hlt4
               obtain ⟨lb,lo,u,rfl,hu,hcu⟩:=HRw.out.at_ hlt4;have k1:(0:Int)≤(k:Int):=by omega
               have k2:(k:Int)<(m:Int):=by omega
               have HX:=Zh hx;have HU:=Zh hu;clear hx hu;obtain ⟨wo,hwo⟩:∃ wo,wo=wr:=⟨_,rfl⟩;subst hwo
               go_wp2_with fail
               go_loopw [15] (fun q W=>Below w3.heap.size w3 W∧∃ v:Nat,v≤m∧q=.int .i64 v∧∀ (v':Nat) (y z:Int),v'<v→p[v']?=some y→l[v']?=some z→x≤y→u≤z) (fun q _=>m-(intOf q).toNat)
               case atStart=>exact ⟨hbr,0,Nat.zero_le _,rfl,fun _ _ _ h=>absurd h (Nat.not_lt_zero _)⟩
               case round =>
                clear hbr;obtain ⟨hbr,v,hv,rfl,hall⟩:=hrel;have HV:=Zh hall;clear hall
                by_cases hlt5:v<m
                · obtain ⟨pb',po',y,e,hy,hcy⟩:=HRp.out.at_ hlt5
                  cases e
                  obtain ⟨lb',lo',z,e,hz,hcz⟩:=HRw.out.at_ hlt5
                  cases e
                  have HY:=Zh hy;have HZ:=Zh hz;have q0':=Zc hbr (Zn _) q0;have hcp':=Zc hbr (Zn _) HCP.out;have hcx':=Zc hbr (Zn _) hcx;have hcu':=Zc hbr (Zn _) hcu;have hcy':=Zc hbr (Zn _) hcy;have hcz':=Zc hbr (Zn _) hcz;have k3:(0:Int)≤(v:Int):=by omega
                  have k4:(v:Int)<(m:Int):=by omega
                  clear hy hz hcy hcz
                  by_cases hxy:x≤y
                  · by_cases huz:u > z
                    · have HC:=Zh (Qiz (n:=m) (p:=Qfx ls (j+1)) (l:=l) HLEN.out (fun hh=>by
                       have:=hh.2 p (by rw [Qhh];exact HPP.out) k v x y u z HX.out HY.out HU.out HZ.out hxy;omega))
                      have e1:decide (x≤y)=true:=by simpa using hxy
                      go_wp2_with fail
                      go_quiet (fail)
                      go_wp2_with fail
                      go_ret
                      exact ⟨Qcf HC.out.symm,Zb hbw3 (Qbi hbr _)⟩
                    · have e1:decide (x≤y)=true:=by simpa using hxy
                      have HO:=Zh huz
                      go_wp2_with fail
                      go_quiet (fail)
                      go_wp2_with fail
                      go_roundw
                      case rel=>exact ⟨Qbi hbr _,v+1,by omega,by go_num,fun v' y' z' hv' h1 h2 h3=>by
                       by_cases e:v'=v
                       · subst e
                         rw [HZ.out] at h2
                         cases h2
                         have:=HO.out;omega
                       · exact HV.out v' y' z' (by omega) h1 h2 h3⟩
                      case measure=>simp [intOf];omega
                  · have e1:decide (x≤y)=false:=by simpa using hxy
                    have HO:=Zh hxy
                    go_wp2_with fail
                    go_quiet (fail)
                    go_wp2_with fail
                    go_roundw
                    case rel=>exact ⟨Qbi hbr _,v+1,by omega,by go_num,fun v' y' z' hv' h1 h2 h3=>by
                     by_cases e:v'=v
                     · subst e
                       rw [HY.out] at h1
                       cases h1
                       have:=HO.out;omega
                     · exact HV.out v' y' z' (by omega) h1 h2 h3⟩
                    case measure=>simp [intOf];omega
                · obtain rfl:m=v:=by omega
                  go_wp2_with fail
                  go_roundw
                  case rel=>exact ⟨hbr,k+1,by omega,by go_num,fun a v x' y u' z ha h1 h2 h3 h4 h5=>by
                   by_cases e:a=k
                   · subst e
                     rw [HX.out] at h1;rw [HU.out] at h3
                     cases h1
                     cases h3
                     exact HV.out v y z (by rw [←HLp.out];exact (Zs h2).1) h2 h4 h5
                   · exact HA.out a v x' y u' z (by omega) h1 h2 h3 h4 h5⟩
                  case measure=>simp [intOf];omega
             · obtain rfl:m=k:=by omega
               have HC:=Zh (Qmp (n:=m) (p:=Qfx ls (j+1)) HLV.out (fun q hq=>by
                rw [Qhh,HPP.out] at hq
                cases hq
                intro a v x y u z h1 h2 h3 h4 h5;exact HA.out a v x y u z (by rw [←HLp.out];exact (Zs h1).1) h1 h2 h3 h4 h5))
               clear HA
               go_wp2_with fail
               have hb99:=hbr
               exact Kbm
end Go.Proofs.YtdheeddnkdhfeaaGreatDoor
