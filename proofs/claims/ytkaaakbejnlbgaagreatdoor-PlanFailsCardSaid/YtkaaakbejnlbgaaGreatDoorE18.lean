/- Qbl of the proof: AsQ, AsM, AsT, Mq, Pp, LvT, MnR, MnL, MnP, MnW. -/
import Derived.Test.YtkaaakbejnlbgaaGreatDoorE17
import Derived.Maps.OwnSet
import Derived.Maps.OwnOps
import Derived.WideKeyPair
set_option maxHeartbeats 4000000
set_option maxRecDepth 20000
namespace Go.Proofs.YtkaaakbejnlbgaaGreatDoor
open Go.RowKit Go.Proofs.Tryz
section
variable {N:Qak} {ls:Lz} {s t:Nat} {d:Iz}
theorem StW.lt {a b:Nat}{e:Int}(h:StW N a b e):b<N.ar.length:=by obtain ⟨y,hy,_⟩:=h;exact (Zs hy).1
theorem StW.bd (hok:Qar N){a b:Nat}{e:Int}(h:StW N a b e):0≤e∧e≤4294967296:=by obtain ⟨y,hy,h1,h2,rfl⟩:=h;have h3:=(Qcs hok a b).resolve_left h1;have h4:=(Qei (hok.arcs y (Zm hy)).w).resolve_left h2;omega
theorem Qsq (hok:Qar N){p:Nat}{c:Int} (h:Rch (StW N) s p c):∃ e,Rch (StW N) s p e∧e≤MB:=by exact Kco
structure BfF (N:Qak) (s:Nat) (d:Iz):Prop where
 len:d.length=N.ar.length
 ok:∀ (b:Nat) (v:Int),d[b]?=some v→v=1152921504606846976∨(0≤v∧v<1152921504606846976∧Rch (StW N) s b v)
 zero:dAt d s=0
theorem BfF.at_ (h:BfF N s d)(a:Nat):dAt d a=1152921504606846976∨(0≤dAt d a∧dAt d a<1152921504606846976∧Rch (StW N) s a (dAt d a)):=by
 cases e:d[a]? with
 | none=>left;unfold dAt;rw [Ya,e];rfl
 | some v=>rw [Qfi e];exact h.ok a v e
theorem BfF.start (hs:s<N.ar.length):BfF N s ((List.replicate N.ar.length 1152921504606846976).set s 0):=by
 have hl:s<(List.replicate N.ar.length (1152921504606846976:Int)).length:=by simpa using hs
 refine ⟨Sm,fun b v h=>?_,by rw [Res hl,if_pos rfl]⟩;by_cases e:s=b;{subst e;rw [Yg hl] at h;cases h;exact .inr ⟨Int.le_refl _,Oo,.start⟩};{rw [Yh e] at h;obtain ⟨_,e2⟩:=Zs h;simp at e2;exact .inl e2.symm}
theorem BfF.less (h:BfF N s d){a b:Nat}{e:Int}(ha:dAt d a<1152921504606846976)(hs:StW N a b e)(he:0≤e)(hlt:dAt d a+e<dAt d b):BfF N s (d.set b (dAt d a+e)):=by
 rcases h.at_ a with h1|⟨h1,_,h2⟩
 {omega};have hb:b<d.length:=by rw [h.len];exact hs.lt
 have hbi:dAt d b≤1152921504606846976:=by rcases h.at_ b with g|⟨_,g,_⟩ <;> omega
 refine ⟨by rw [Yq];exact h.len,fun q v hq=>?_,?_⟩;{by_cases e1:b=q;{subst e1;rw [Yg hb] at hq;cases hq;exact .inr ⟨Oo,Oo,h2.step hs⟩};{rw [Yh e1] at hq;exact h.ok q v hq}};{rw [Res hb];split;{rename_i e1;subst e1;have:=h.zero;omega};{exact h.zero}}
theorem BfF.done (hok:Qar N)(h:BfF N s d)(hR:∀ a,dAt d a<1152921504606846976→∀ b e,StW N a b e→dAt d b≤dAt d a+e)(t:Nat):Lst (Rch (StW N) s t) (dAt d t):=by
 have hlow:∀ p c,Rch (StW N) s p c→dAt d p≤c:=by
  intro p c hr
  induction hr with
  | start=>rw [h.zero];exact Int.le_refl _
  | @step p q c e _ h2 ih =>(have he:=(h2.bd hok).1;have hq:dAt d q≤1152921504606846976:=by rcases h.at_ q with g|⟨_,g,_⟩ <;> omega);(by_cases hlt:dAt d p<1152921504606846976);{have:=hR p hlt q e h2;omega};{omega}
 rcases h.at_ t with h1|⟨_,_,h1⟩
 {(right);refine ⟨h1,fun c hc=>?_⟩;obtain ⟨e,h2,h3⟩:=Qsq hok hc;have:=hlow t e h2;unfold MB at h3;omega};{exact .inl ⟨h1,hlow t⟩}
def BfG (N:Qak)(d:Iz)(a k:Nat):Prop:=∀ (p j b:Nat),p<a∨p=a∧j<k→(Qge N p)[j]?=some (b:Int)→dAt d p<1152921504606846976→∀ e,StW N p b e→dAt d b≤dAt d p+e
theorem BfG.next (hok:Qar N){a k b:Nat}{y:Tri}(h:BfG N d a k) (hb:(Qge N a)[k]?=some (b:Int)) (hy:N.ar[b]?=some y) (hd0:0≤dAt d a) (htn:Qal N a b≠1152921504606846976) (hw0:0≤y.2.2) (hno:dAt d b≤Qdg (Qdg (dAt d a) (Qal N a b)) y.2.2):BfG N d a (k+1):=fun p j q hp hq hd e he=>by by_cases e1:p=a∧j=k;{obtain ⟨rfl,rfl⟩:=e1;(rw [hb] at hq;have:(b:Int)=q:=Yv hq;obtain rfl:b=q:=Oo);obtain ⟨y',hy',_,_,rfl⟩:=he;rw [hy] at hy';cases hy';have h1:=(Qcs hok p b).resolve_left htn;have g1:=Qet hd0 h1.1;have g2:=Qet g1.1 hw0;omega};{exact h p j q Oo hq hd e he}
theorem BfG.up {a k:Nat}(h:BfG N d a k) (hk:(Qge N a).length≤k∨¬dAt d a<1152921504606846976):BfG N d (a+1) 0:=fun p j b hp hj hd e he=>by by_cases e1:p=a;{subst e1;(rcases hk with hk|hk);{exact h p j b (.inr ⟨rfl,by have:=(Zs hj).1;omega⟩) hj hd e he};{exact absurd hd hk}};{exact h p j b Oo hj hd e he}
theorem BfF.fin (hok:Qar N)(h:BfF N s d)(hG:BfG N d N.ar.length 0)(t:Nat):Lst (Rch (StW N) s t) (dAt d t):=by refine h.done hok (fun a ha b e he=>?_) t;obtain ⟨x,y,hx,hy,_,h1,_,_⟩:=he.ends;obtain ⟨j,hj⟩:=Yr (Qxr.2 ⟨b,rfl,h1⟩);exact hG a j b (.inl (Zs hx).1) hj ha e he
theorem BfF.nd (hok:Qar N)(h:BfF N s d){a b:Nat}{y:Tri}(ha:dAt d a<1152921504606846976)(htn:Qal N a b≠1152921504606846976) (hy:N.ar[b]?=some y) (hw0:0≤y.2.2) (hlt:Qdg (Qdg (dAt d a) (Qal N a b)) y.2.2<dAt d b) :
 BfF N s (d.set b (Qdg (Qdg (dAt d a) (Qal N a b)) y.2.2))∧0≤Qdg (Qdg (dAt d a) (Qal N a b)) y.2.2:=by
 have h1:=(Qcs hok a b).resolve_left htn;rcases h.at_ a with h2|⟨h2,_,_⟩
 {omega};have hdb:dAt d b≤1152921504606846976:=by rcases h.at_ b with g|⟨_,g,_⟩ <;> omega
 have g1:=Qet h2 h1.1;have g2:=Qet g1.1 hw0;have e2:=g2.2.2.2 Oo;have e3:=g1.2.2.2 Oo;rw [e2,e3,Int.add_assoc] at hlt ⊢;exact ⟨h.less ha ⟨y,hy,htn,Oo,rfl⟩ Oo hlt,Oo⟩
end
/-! A search that takes the least first and stops where its end is taken. -/
theorem Dij.miss {St:Qbu}{s t:Nat}{dn hp:Nat→Option Int}(h:Dij St s dn hp)(h0:∀ p q d,St p q d→0≤d)(he:∀ q,hp q=none)(ht:dn t=none):Lst (Rch St s t) 1152921504606846976:=.inr ⟨rfl,fun c hc=>by
 obtain ⟨e,h1,_⟩:=h.all h0 he hc;rw [ht] at h1
 cases h1⟩
section
variable {N:Qak} {ls:Lz} {av:Iz} {s:Nat}
theorem Qoo (hok:Qar N)(hP:Qbt N.vs.length ls)(hav:toV N s∈av){p:Nat}{c:Int} (h:Rch (HSt N ls av) s p c):Rau N ls av p:=by
 cases h with
 | start=>exact Qqi hav
 | step _ h2 =>
  rcases h2 with ⟨h0,h3⟩|⟨j,l,y,z,v,hj,hl,hy,hz,_,h5,h6,_⟩
  {obtain ⟨x,y,hx,hy,e,_⟩:=h3.ends;exact Qug hx hy e h0};{exact Quh hok hP hy hz hj hl h5 h6}
theorem Rhg (hok:Qar N)(hP:Qbt N.vs.length ls) (hE:∀ (j:Nat) (l:Iz) (a b:Nat) (y z:Tri),ls[j]?=some l→N.ar[a]?=some y→N.ar[b]?=some z→Qad l y.1≠Qad l y.2.1→Qad l z.1=Qad l y.2.1→Qad l z.2.1≠Qad l y.2.1→∃ v,Qhc N (Qgd l (Qad l y.2.1)) a b v)
 (hs:∃ x,N.ar[s]?=some x) (hav:toV N s∈av) {p:Nat} {c:Int} (h:Rch (HSt N ls av) s p c):∃ e,Rch (HSt N ls av) s p e∧e≤MB:=by
 obtain ⟨e,h1,h2⟩:=Qsq hok (Rhh h);obtain ⟨a,c1,c2,g1,g2,g3,g4⟩:=Qvf hok hP hE h1 hs hav;rcases g4 with ⟨_,rfl,rfl⟩|⟨j,l,y,hj,hl,hy,hr⟩
 {exact ⟨c1,g1,Oo⟩}
 · cases hr with
   | start=>exact ⟨c1,g1,Oo⟩
   | step _ h4 =>(exfalso);have hlen:=(hP.lvl l (Zm hl)).len;obtain ⟨_,w,_,hw,_,_,_,h5,h6,_⟩:=(Qdq hok hlen).1 h4;obtain ⟨l',hl',q1⟩:=Qfc hj;rw [hl] at hl';cases hl';rw [(Qbw hy).1] at q1;have hm:=Qsg (ls:=ls) (v:=toV N p) (av:=av) (j:=j) ⟨l,hl,fun v hv=>by rw [(Qbw hw).1,h6];exact q1 v hv⟩;obtain ⟨k,hk⟩:∃ k,Qlw ls (toV N p) av=k+1:=⟨Qlw ls (toV N p) av-1,Oo⟩;obtain ⟨lk,hlk,_⟩:=Qfc hk;obtain ⟨u,v,e1,e2,hu,hv⟩:=Qjp hok hw;have hg:=Qoo hok hP hav h k lk w hk hlk hw;rw [e1,e2] at hg;rw [e1] at h5;rw [e2] at h6;exact hg (Qsv hP hl hu hv (h5.trans h6.symm) (k-j) lk (by rw [show j+(k-j)=k by omega];exact hlk))
theorem HSt.bd (hok:Qar N){a b:Nat}{d:Int}(h:HSt N ls av a b d):0≤d∧d≤70379481595904:=by
 rcases h with ⟨_,h⟩|⟨j,l,y,z,v,_,_,_,hz,_,_,_,h7,h8,h9,rfl⟩
 {have:=h.bd hok;omega};{have h1:=(h8.bd hok).resolve_left h9;have h2:=(Qei (hok.arcs z (Zm hz)).w).resolve_left h7;omega}
theorem Qes.ent {cl:Iz}(hok:Qar N)(hP:Qbt N.vs.length ls)(h:Qes N ls cl){j:Nat}{l:Iz}{a b:Nat}{y z:Tri} (hl:ls[j]?=some l) (hy:N.ar[a]?=some y) (hz:N.ar[b]?=some z) (h1:Qad l y.1≠Qad l y.2.1) (h2:Qad l z.1=Qad l y.2.1) (h3:Qad l z.2.1≠Qad l y.2.1) :
 ∃ (c:Nat) (x:Qap) (i k:Nat) (v:Int),Qad l y.2.1=(c:Int)∧(Qaf N.ar l)[c]?=some x∧x.1[i]?=some (a:Int)∧x.2[k]?=some (b:Int)∧Qmg N ls (Qim (Qah N.ar ls) (Qaf N.ar l) j c x i k) j l c x i k a b∧cl[Qim (Qah N.ar ls) (Qaf N.ar l) j c x i k]?=some v∧Qhc N (Qgd l (Qad l y.2.1)) a b v:=by
 obtain ⟨_,u,_,e2,_,hu⟩:=Qjp hok hy;have hlv:=hP.lvl l (Zm hl);obtain ⟨c,hc,hcm,_⟩:=Qev hlv (v:=u) hu;rw [←e2] at hc;have hcl:c<(Qaf N.ar l).length:=by rw [Qau];exact hcm
 obtain ⟨x,hx⟩:∃ x,(Qaf N.ar l)[c]?=some x:=⟨_,Zg hcl⟩;obtain ⟨i,hi⟩:=Yr ((Qef hx).2 ⟨y,hy,by rw [←hc];exact h1,hc⟩);obtain ⟨k,hk⟩:=Yr ((Qcn hx).2 ⟨z,hz,by rw [h2];exact hc,by rw [←hc];exact h3⟩);have he:Qmg N ls (Qim (Qah N.ar ls) (Qaf N.ar l) j c x i k) j l c x i k a b:=⟨hl,hx,hi,hk,rfl⟩;obtain ⟨v,hv,hv2⟩:=h.at_ he;exact ⟨c,x,i,k,v,hc,hx,hi,hk,he,hv,by rw [hc];exact hv2⟩
end
structure NxtP (N:Qak) (ls:Lz) (av:Iz) (a:Nat) (os cs:Iz):Prop where
 len:cs.length=os.length
 to_:∀ (k:Nat) (o v:Int),os[k]?=some o→cs[k]?=some v→∃ (b:Nat) (y:Tri),o=(b:Int)∧N.ar[b]?=some y∧0≤v∧v≤1152921504606846976∧(v≠1152921504606846976→y.2.2≠1152921504606846976→HSt N ls av a b (v+y.2.2))
 all:∀ (b:Nat) (d:Int),HSt N ls av a b d→∃ (k:Nat) (v:Int) (y:Tri),os[k]?=some (b:Int)∧cs[k]?=some v∧N.ar[b]?=some y∧v≠1152921504606846976∧y.2.2≠1152921504606846976∧d=v+y.2.2
section
variable {N:Qak} {ls:Lz} {av:Iz} {s a:Nat}
theorem Rha (hok:Qar N){x:Tri} (hx:N.ar[a]?=some x) (h0:Qlw ls (toV N a) av=0):NxtP N ls av a (idx (·.1) N.ar x.2.1) ((idx (·.1) N.ar x.2.1).map (fun b=>Qal N a b.toNat)):=by refine ⟨Sm,fun k o v ho hv=>?_,fun b d hd=>?_⟩;{obtain ⟨b,y,rfl,hy,hf⟩:=Qfn.1 (Zm ho);(rw [Yt,ho] at hv;have hv':Qal N a b=v:=by simpa using hv);subst hv';have hb:=Qcs hok a b;exact ⟨b,y,rfl,hy,Oo,Oo,fun h1 h2=>.inl ⟨h0,y,hy,h1,h2,rfl⟩⟩};{(rcases hd with ⟨_,hd⟩|⟨j,_,_,_,_,hj,_⟩);{obtain ⟨x',y,hx',hy,e,h1,h2,h3⟩:=hd.ends;rw [hx] at hx';cases hx';obtain ⟨k,hk⟩:=Yr (Qfn.2 ⟨b,y,rfl,hy,e.symm⟩:(b:Int)∈idx (·.1) N.ar x.2.1);exact ⟨k,Qal N a b,y,hk,by rw [Yt,hk];simp,hy,h1,h2,h3⟩};{omega}}
theorem Rhb (hok:Qar N){cl:Iz}(hA:Qes N ls cl){j i c:Nat}{l:Iz}{x:Qap}{y:Tri} (hj:Qlw ls (toV N a) av=j+1) (hl:ls[j]?=some l) (hy:N.ar[a]?=some y) (hg:Qad l y.1≠Qad l y.2.1)
 (hc:Qad l y.2.1=(c:Int)) (hx:(Qaf N.ar l)[c]?=some x) (hi:x.1[i]?=some (a:Int)):NxtP N ls av a x.2 ((cl.drop (Qim (Qah N.ar ls) (Qaf N.ar l) j c x i 0)).take x.2.length):=by
 have hat:∀ (k:Nat) (o:Int),x.2[k]?=some o→∃ (b:Nat) (z:Tri) (v:Int),o=(b:Int)∧N.ar[b]?=some z∧Qad l z.1=(c:Int)∧Qad l z.2.1≠(c:Int)∧((cl.drop (Qim (Qah N.ar ls) (Qaf N.ar l) j c x i 0)).take x.2.length)[k]?=some v∧Qhc N (Qgd l c) a b v:=by
  intro k o ho;have hk:=(Zs ho).1;have hm:=Zm ho;obtain ⟨b,rfl⟩:=Qfu hx ho;obtain ⟨z,hz,h1,h2⟩:=(Qcn hx).1 hm;obtain ⟨v,hv,hv2⟩:=hA.at_ (show Qmg N ls (Qim (Qah N.ar ls) (Qaf N.ar l) j c x i k) j l c x i k a b from ⟨hl,hx,hi,ho,rfl⟩);refine ⟨b,z,v,rfl,hz,h1,h2,?_,hv2⟩;rw [List.getElem?_take_of_lt hk,List.getElem?_drop];rw [←hv];congr 1
  unfold Qim;omega
 have hlen:((cl.drop (Qim (Qah N.ar ls) (Qaf N.ar l) j c x i 0)).take x.2.length).length=x.2.length:=by
  rw [Yw];refine Nat.min_eq_left ?_;rcases Nat.eq_zero_or_pos x.2.length with h0|h0
  {omega};{obtain ⟨o,ho⟩:∃ o,x.2[x.2.length-1]?=some o:=⟨_,Zg Oo⟩;obtain ⟨_,_,v,_,_,_,_,hv,_⟩:=hat _ _ ho;rw [List.getElem?_take_of_lt Oo] at hv;have:=(Zs hv).1;omega}
 refine ⟨hlen,fun k o v ho hv=>?_,fun b d hd=>?_⟩;{obtain ⟨b,z,v',rfl,hz,h1,h2,h3,h4⟩:=hat k o ho;rw [hv] at h3;cases h3;have hb:=h4.bd hok;refine ⟨b,z,rfl,hz,Oo,Oo,fun g1 g2=>.inr ⟨j,l,y,z,v,hj,hl,hy,hz,hg,by rw [h1,hc],by rw [hc];exact h2,g2,by rw [hc];exact h4,g1,rfl⟩⟩};{(rcases hd with ⟨h0,_⟩|⟨j',l',y',z,v,hj',hl',hy',hz,_,h5,h6,h7,h8,h9,rfl⟩);{omega};{rw [hj] at hj';(obtain rfl:j=j':=Oo);rw [hl] at hl';cases hl';rw [hy] at hy';cases hy';(rw [hc] at h5 h6 h8;obtain ⟨k,hk⟩:=Yr ((Qcn hx).2 ⟨z,hz,h5,h6⟩);obtain ⟨b',z',v',e,hz',_,_,h3,h4⟩:=hat k _ hk;obtain rfl:b=b':=Oo);rw [hz] at hz';cases hz';obtain rfl:=Lst.uniq h8 h4;exact ⟨k,v,z,hk,h3,hz,h9,h7,rfl⟩}}
inductive Via (N:Qak) (ls:Lz) (av:Iz) (s:Nat) (bf:Iz) (dn:Nat→Option Int):Nat→Int→List (Nat×Nat)→Prop
 | start:Via N ls av s bf dn s 0 []
 | step {p q:Nat} {c d:Int} {hs:List (Nat×Nat)}:Via N ls av s bf dn p c hs→dn p=some c→q≠s→bf[q]?=some (p:Int)→HSt N ls av p q d→Via N ls av s bf dn q (c+d) (hs ++[(p,q)])
inductive HopP (N:Qak) (ls:Lz) (av:Iz) (s:Nat):Nat→Int→List (Nat×Nat)→Prop
 | start:HopP N ls av s s 0 []
 | step {p q:Nat} {c d:Int} {hs:List (Nat×Nat)}:HopP N ls av s p c hs→HSt N ls av p q d→HopP N ls av s q (c+d) (hs ++[(p,q)])
variable {bf:Iz} {dn dn':Nat→Option Int} {q:Nat} {c:Int} {hs:List (Nat×Nat)}
noncomputable def viaLen (N:Qak) (ls:Lz) (av:Iz) (s:Nat) (bf:Iz) (dn:Nat→Option Int) (q:Nat):Nat:=by classical exact if h:∃ c hs,Via N ls av s bf dn q c hs then (Classical.choose (Classical.choose_spec h)).length else 0
structure Rdo (N:Qak) (ls:Lz) (av:Iz) (s:Nat) (bf:Iz) (dn hp:Nat→Option Int) (k:Nat):Prop where
 done:∀ q c,dn q=some c→∃ hs,Via N ls av s bf dn q c hs∧hs.length+1≤k
 wait:∀ q c,hp q=some c→∃ hs,Via N ls av s bf dn q c hs∧hs.length≤k
 st:dn s≠none∨(∀ q,dn q=none)∧∀ q,q≠s→hp q=none
theorem Rdo.init {hp:Nat→Option Int}(h:∀ q,hp q=if q=s then some 0 else none):Rdo N ls av s bf (fun _=>none) hp 0:=by
 refine ⟨fun q c e=>(by cases e),fun q c e=>?_,.inr ⟨fun _=>rfl,fun q hq=>by rw [h q,if_neg hq]⟩⟩;rw [h q] at e;split at e
 {rename_i h1;subst h1;cases e;exact ⟨[],.start,Zn _⟩};{cases e}
end
def GoneQ (N:Qak)(os cs:Iz)(i:Nat):Nat→Int→Prop:=fun r d=>∃ (j:Nat) (v:Int) (y:Tri),j<i∧os[j]?=some (r:Int)∧cs[j]?=some v∧N.ar[r]?=some y∧v≠1152921504606846976∧y.2.2≠1152921504606846976∧d=v+y.2.2
structure Rdg (N:Qak) (ls:Lz) (av:Iz) (s t na:Nat) (dnf hp:Nat→Option Int) (dn:List Bool) (bf:Iz):Prop where
 dij:Dij (HSt N ls av) s dnf hp
 via:Rdo N ls av s bf dnf hp (dn.countP (fun b=>b))
 fl:∀ q,q<na→(dn.getD q false=true↔dnf q≠none)
 bd:∀ q e,hp q=some e→e≤MB+70379481595904
 ld:dn.length=na
 lb:bf.length=na
 nt:dnf t=none
structure Rdh (N:Qak) (ls:Lz) (av:Iz) (s t na p:Nat) (c:Int) (os cs:Iz) (i:Nat) (dnf hp:Nat→Option Int) (dn:List Bool) (bf:Iz):Prop where
 dij:Qlr (HSt N ls av) s dnf hp p c (GoneQ N os cs i)
 via:Rdo N ls av s bf dnf hp (dn.countP (fun b=>b))
 fl:∀ q,q<na→(dn.getD q false=true↔dnf q≠none)
 bd:∀ q e,hp q=some e→e≤MB+70379481595904
 ld:dn.length=na
 lb:bf.length=na
 nt:dnf t=none
 c0:0≤c∧c≤MB
section
variable {N:Qak} {ls:Lz} {av:Iz} {s t na p:Nat} {c:Int} {os cs:Iz} {i:Nat} {dnf hp:Nat→Option Int} {dn:List Bool} {bf:Iz}
theorem Qlr.conv {St:Qbu}{G G':Nat→Int→Prop}(h:Qlr St s dnf hp p c G)(hg:∀ r d,G' r d→G r d):Qlr St s dnf hp p c G' :=
 ⟨h.dr,h.dm,h.hr,h.off,fun q e r d h1 h2=>(h.on q e r d h1 h2).imp (fun h3=>⟨h3.1,fun h4=>h3.2 (hg r d h4)⟩) id,h.st,h.at_⟩
theorem HSt.pos (hok:Qar N)(a b:Nat)(d:Int)(h:HSt N ls av a b d):0≤d:=(h.bd hok).1
theorem Rdg.init:Rdg N ls av s t na (fun _=>none) (Qem (fun _=>none) s 0) (List.replicate na false) (List.replicate na 0):=by
 have h1:∀ q,Qem (fun _=>none) s 0 q=if q=s then some 0 else none:=fun q=>by{unfold Qem;by_cases e:q=s <;> simp [e]}
 refine ⟨⟨fun p c e=>(by cases e),fun p c e=>(by cases e),fun p c e=>?_,fun p c e=>(by cases e),fun p c q d e=>(by cases e),.inr ⟨0,by rw [h1,if_pos rfl],Int.le_refl _⟩⟩,?_,fun q hq=>?_,fun q e h=>?_,Sm,Sm,rfl⟩;{rw [h1] at e;(split at e);{rename_i h2;subst h2;cases e;exact .start};{cases e}};{(have:(List.replicate na false).countP (fun b=>b)=0:=Sm);rw [this];exact Rdo.init h1};{rw [Qzm];simp};{rw [h1] at h;(split at h);{cases h;unfold MB;omega};{cases h}}
theorem Rdh.skip (h:Rdh N ls av s t na p c os cs i dnf hp dn bf){b:Nat}{v:Int}{y:Tri} (hb:os[i]?=some (b:Int)) (hv:cs[i]?=some v) (hy:N.ar[b]?=some y) (hno:v=1152921504606846976∨y.2.2=1152921504606846976):Rdh N ls av s t na p c os cs (i+1) dnf hp dn bf :=
 ⟨h.dij.conv (fun r d ⟨j,v',y',hj,h1,h2,h3,h4,h5,h6⟩=>by
  by_cases e:j=i
  · subst e
    rw [hb] at h1;have e1:=Int.ofNat.inj (Yv h1);subst e1;rw [hv] at h2
    cases h2
    rw [hy] at h3
    cases h3
    rcases hno with g|g
    · exact absurd g h4
    · exact absurd g h5
  · exact ⟨j,v',y',Oo,h1,h2,h3,h4,h5,h6⟩),h.via,h.fl,h.bd,h.ld,h.lb,h.nt,h.c0⟩
theorem Qhw {b:Nat}{v:Int}{y:Tri} (hb:os[i]?=some (b:Int)) (hv:cs[i]?=some v) (hy:N.ar[b]?=some y) (r:Nat) (d:Int) (h:GoneQ N os cs (i+1) r d):GoneQ N os cs i r d∨(r=b∧d=v+y.2.2):=by obtain ⟨j,v',y',hj,h1,h2,h3,h4,h5,h6⟩:=h;by_cases e:j=i;{subst e;rw [hb] at h1;have e1:=Int.ofNat.inj (Yv h1);subst e1;rw [hv] at h2;cases h2;rw [hy] at h3;cases h3;exact .inr ⟨rfl,h6⟩};{exact .inl ⟨j,v',y',Oo,h1,h2,h3,h4,h5,h6⟩}
end
open Go.Maps Go.WideMaps
theorem pr_arr:ArrKey prog 309 3 2:=⟨underlying309,Kf,Kf,Kf⟩
theorem Qso:Keyed prog 309:=Keyed.of_law pr_arr.law
def kq (x y:Nat):Lit:=.string (keyBytes [.int .i64 (x:Int),.int .i64 (y:Int)])
theorem pr_size:∃ m,Tryz.prog.types.size=m+1:=⟨Tryz.prog.types.size-1,Kf⟩
theorem Qzv {x y:Nat}(hx:x≤1000000000000)(hy:y≤1000000000000):keyOf prog 309 (.agg #[.int .i64 (x:Int),.int .i64 (y:Int)])=some (kq x y):=keyOf_pair pr_arr underlying3 pr_size (WalkArith.wf_i64 Oo) (WalkArith.wf_i64 Oo)
theorem kq_ne {x y x' y':Nat}(hx:x≤1000000000000)(hy:y≤1000000000000)(hx':x'≤1000000000000)(hy':y'≤1000000000000) (h:¬(x=x'∧y=y')):kq x y≠kq x' y':=fun e=>by
 have h1:=Qzv hx hy;have h2:=Qzv hx' hy';rw [←e] at h2;have h3:=Qso.inj h1 h2;injection h3 with h3
 injection h3 with h3
 injection h3 with a1 a2
 injection a2 with a2 _
 injection a1 with _ a1
 injection a2 with _ a2
 exact h ⟨Oo,Oo⟩
def RV:Value→Option (DataW Value×List MemPlace):=fun v=>some (.held v,[])
def MpQ (W:World)(b n:Nat)(f:Nat→Nat→Option Value):Prop :=
 ∃ D:DataW Value,W.ownsMap prog 309 RV b n D∧IsMap D∧∀ x y:Nat,x≤1000000000000→y≤1000000000000→Maps.has D (kq x y)=(f x y).isSome∧∀ v,f x y=some v→∀ z,D.atKey (kq x y) z=.held v
theorem MpQ.new (w:World):MpQ (w.alloc (.map #[] 0)) w.heap.size 0 (fun _ _=>none) :=
 ⟨.map [],World.ownsMap_made _ _ _ _,isMap_empty,fun x y _ _=>⟨rfl,fun v h=>by cases h⟩⟩
theorem MpQ.lt {W:World}{b n:Nat}{f:Nat→Nat→Option Value}(h:MpQ W b n f):b<W.heap.size:=by obtain ⟨D,h1,_⟩:=h;exact h1.lt
theorem MpQ.grown {W W':World}{b n:Nat}{f:Nat→Nat→Option Value}{r:Option Nat}(h:MpQ W b n f)(hg:W.grownBy W' r)(hr:r≠some b):MpQ W' b n f:=by obtain ⟨D,h1,h2⟩:=h;exact ⟨D,h1.kept hg (fun e=>hr e.symm),h2⟩
theorem MpQ.below {W W':World}{b n:Nat}{f:Nat→Nat→Option Value}(h:MpQ W b n f)(hb:Bw W W'):MpQ W' b n f:=h.grown ⟨hb.os,hb.tape,hb.output,hb.size,fun k hk _=>hb.block k hk⟩ (r:=none) Sm
theorem MpQ.set {W:World}{b n g i:Nat}{f:Nat→Nat→Option Value}(h:MpQ W b n f)(hg:g≠b)(v:Value):MpQ (W.setCell ⟨g,i,none⟩ v) b n f:=h.grown (Qac _ _ _ _) (fun e=>hg (by injection e))
theorem Reo (w:World):(zeroValue 215).run prog w=.ok (.agg #[.slice none 0 0,.slice none 0 0]) w:=Kf
section
variable {w:World} {ops:Array Oper} {rest:List Oper} {o:Oper} {a:Act} {Q:Exit→Act→World→Prop} {b n:Nat} {f:Nat→Nat→Option Value}
theorem Ril (hg:o.guard=none)(m x:Operand)(hop:o.op=Op.lookup 223 m x true)(i k:Nat) (hm:a.eval m=.map (some b)) (h:MpQ w b n f) (hx:a.eval x=.agg #[.int .i64 i,.int .i64 k]) (hi:i≤1000000000000) (hk:k≤1000000000000)
 (hK:wpList prog ops Q rest (a.put o.dst (.tuple #[(f i k).getD (.agg #[.slice none 0 0,.slice none 0 0]),.bool (f i k).isSome])) w):wpList prog ops Q (o::rest) a w:=by
 obtain ⟨D,h1,h2,h3⟩:=h;refine wpList_lookup_own_ok w hg m x 223 hop 309 215 Qso underlying223 RV (Reo w) _ [] rfl b n D hm h1 _ _ hx (Qzv hi hk) (fun v ps hv=>?_);obtain ⟨g1,g2⟩:=h3 i k hi hk;rw [g1]
 have:v=(f i k).getD (.agg #[.slice none 0 0,.slice none 0 0]):=by
  have hv':DataW.held v=D.atKey (kq i k) (.held (.agg #[.slice none 0 0,.slice none 0 0])):=congrArg Prod.fst (Yv hv)
  cases hf:f i k with
  | none =>rw [hf] at g1;rw [atKey_of_not_has g1] at hv';injection hv'
  | some u =>rw [g2 u hf] at hv';injection hv'
 subst this;exact hK
end
end Go.Proofs.YtkaaakbejnlbgaaGreatDoor
namespace Go.Proofs.YtkaaakbejnlbgaaGreatDoor
open Go.RowKit Go.Proofs.Tryz
attribute [local go_sem ↓] Go.wp_at_zero Go.wp_at_succ
theorem Rhd (o:Nat)(ar:List Tri) (ls:Lz) (w:World) (h:Qjm w o ar ls) (hL:ls.length≤1000000) (hc:∀ l∈ls,l.length≤1000000) :
 Calls prog 127 #[.pointer (some ⟨o,0,none⟩)] w fun e w'=>∃ Q' cq',e=.returned (.agg #[.slice Q' ls.length cq'])∧RdT (msk w' (fun b=>w.heap.size≤b∧b<w'.heap.size)) Q' ls.length ls∧Bw w w':=by
 obtain ⟨Q,F,T,G,S,L,m,cq,cf,ct,cg,cs,h⟩:=h;have h0:=h.n0;have hl:ls.length=L:=h.part.1;rw [hl] at hL ⊢;have HT:=Zh h.part;have HC:=Zh hc;have hol:=Qaj h0;simp only at hol;clear h hc hl;go_enter func127,ntmps127
 go_wp2_with fail
 (refine Qab ?_;intro w1 hw1);have hb1:Bw w w1:=by rw [hw1];exact Qag
 have hR1:Blk w1 w.heap.size 146 #[.slice none 0 0]:=by rw [hw1];exact Qbi
 have hz1:w.heap.size+1≤w1.heap.size:=by rw [hw1];simp
 clear hw1;with_reducible refine (Rat Q L cq ls _ (HT.o.below hb1) hL HC.o).mono ?_
 rintro e w2 ⟨Q',cq',rfl,hrw,_,_,hb2⟩;have hR2:=hR1.below hb2 hR1.lt;have r0:=hR2.cell 0;simp only [Yo,Yn] at r0;have f0:=hR2.frozen 0;have hb2':=Zb hb1 hb2
 have HW:=Zh (show RdT (msk (w2.setCell ⟨w.heap.size,0,none⟩ (.slice Q' L cq')) (fun b=>w.heap.size≤b∧b<(w2.setCell ⟨w.heap.size,0,none⟩ (.slice Q' L cq')).heap.size)) Q' L ls from
  hrw.le ((Qaz.set w2 w.heap.size 0 (.slice Q' L cq') Oo).msk.trans (Qbj (fun b hb=>⟨Oo,by have:=hb.2;simpa [World.setCell] using this⟩))))
 have hbe:Bw w (w2.setCell ⟨w.heap.size,0,none⟩ (.slice Q' L cq')):=hb2'.setCell (Zn _) _;clear hrw hb2 hR1 hb1 h0;go_wp2_with fail
 refine bodyPost_ret (v:=.agg #[.slice Q' L cq']) (by simp [results,results127,go_sem,r0]) rfl ?_;exact ⟨_,_,rfl,HW.o,hbe⟩
theorem lvTo_yes {ls:Lz} {v:Int} {av:Iz} {j:Nat} (h:Qgg ls j v av):Qxo ls v av (j+1)=j+1:=by unfold Qxo;rw [if_pos h]
theorem lvTo_no {ls:Lz} {v:Int} {av:Iz} {j:Nat} (h:¬Qgg ls j v av):Qxo ls v av (j+1)=Qxo ls v av j:=by rw [show Qxo ls v av (j+1)=(by classical exact if Qgg ls j v av then j+1 else Qxo ls v av j) from rfl];rw [if_neg h]
structure MR (V:World) (qb g o:Nat) (N:Qak) (ls:Lz) (TA:Oz) (nt ct:Nat) (tl:Iz) (CA:Oz) (NC cC:Nat) (cl:Iz) (Q:Oz) (L cq mb:Nat):Prop where
 gr:Qfg V g N
 ov:Qjm V o N.ar ls
 part:RdT V Q L ls
 costs:RdI V CA NC cl
 ts:RdI V TA nt tl
 q0:V.cell? ⟨qb,0,none⟩=some (.pointer (some ⟨g,0,none⟩))
 q1:V.cell? ⟨qb,1,none⟩=some (.pointer (some ⟨o,0,none⟩))
 q2:V.cell? ⟨qb,2,none⟩=some (.slice CA NC cC)
 q3:V.cell? ⟨qb,3,none⟩=some (.slice TA nt ct)
 q5:V.cell? ⟨qb,4,none⟩=some (.slice Q L cq)
 q6:V.cell? ⟨qb,5,none⟩=some (.map (some mb))
section
variable {V W:World} {qb g o:Nat} {N:Qak} {ls:Lz} {TA:Oz} {nt ct:Nat} {tl:Iz} {CA:Oz} {NC cC:Nat} {cl:Iz} {Q:Oz} {L cq mb:Nat}
theorem MR.le (h:MR V qb g o N ls TA nt ct tl CA NC cC cl Q L cq mb)(hl:Le V W):MR W qb g o N ls TA nt ct tl CA NC cC cl Q L cq mb :=
 ⟨h.gr.le hl,h.ov.le hl,h.part.le hl,h.costs.le hl,h.ts.le hl,hl _ _ h.q0,hl _ _ h.q1,hl _ _ h.q2,hl _ _ h.q3,hl _ _ h.q5,hl _ _ h.q6⟩
theorem MR.below (h:MR V qb g o N ls TA nt ct tl CA NC cC cl Q L cq mb)(hb:Bw V W):MR W qb g o N ls TA nt ct tl CA NC cC cl Q L cq mb:=h.le (Le.below hb)
end
open Go.Maps
theorem MpI.look {W:World}{b n:Nat}{f:Nat→Option Nat}(h:MpI W b n f)(k:Nat)(hk:k≤1000000000000):(Instr.lookup 226 (.map (some b)) (.int .i64 (k:Int)) false).run prog W=.ok (.int .i64 (((f k).getD 0:Nat):Int)) W:=by
 obtain ⟨D,h1,h2,h3⟩:=h;obtain ⟨c,hrun,hat,_⟩:=h1.lookup_int Qjc underlying226 underlying3 (Qrz W) (Qla hk);obtain ⟨g1,g2⟩:=h3 k hk
 have:c=(((f k).getD 0:Nat):Int):=by
  cases hf:f k with
  | none =>rw [hf] at g1;rw [atKey_of_not_has g1] at hat;(injection hat with hc);(injection hc with _ hc);exact hc.symm
  | some v =>rw [g2 v hf] at hat;(injection hat with hc);(injection hc with _ hc);exact hc.symm
 rw [hrun,this]
structure PlnL (W:World) (pb:Nat) (l:Iz) (av:Iz) (i:Nat) (b n:Nat) (f:Nat→Option Nat):Prop where
 c:W.cell? ⟨pb,i,none⟩=some (.map (some b))
 m:MpI W b n f
 iff:∀ c:Nat,(f c).getD 0=0↔∀ x∈av,Qad l x≠(c:Int)
def PlnR (W:World)(pb:Nat) (ls:Lz) (av:Iz):Prop:=∀ i l,ls[i]?=some l→∃ b n f,PlnL W pb l av i b n f
theorem PlnR.below {W W':World}{pb:Nat} {ls:Lz} {av:Iz} (h:PlnR W pb ls av) (hb:Bw W W'):PlnR W' pb ls av:=fun i l hl=>by obtain ⟨b,n,f,h1,h2,h3⟩:=h i l hl;exact ⟨b,n,f,Zc hb (Zn _) h1,h2.below hb,h3⟩
theorem Rgl (w:World)(qb g o:Nat)(N:Qak) (ls:Lz) (TA:Oz) (nt ct:Nat) (tl:Iz) (CA:Oz) (NC cC:Nat) (cl:Iz) (Q:Oz) (L cq mb pb:Nat) (av:Iz) (v:Nat) (h:MR w qb g o N ls TA nt ct tl CA NC cC cl Q L cq mb) (hP:Qbt N.vs.length ls) (hp:PlnR w pb ls av) (hv:v<N.vs.length) (hvn:N.vs.length≤1000000) :
 Calls prog 134 #[.pointer (some ⟨qb,0,none⟩),.slice (some ⟨pb,0,none⟩) L L,.int .i64 v] w fun e w'=>e=.returned (.int .i64 ((Qlw ls (v:Int) av:Nat):Int))∧Bw w w':=by
 have HQ:=Zh (fun V (hV:Bw w V)=>h.below hV);have HP:=Zh hP;have HPL:=Zh (fun V (hV:Bw w V)=>hp.below hV);have hL6:L≤6:=by rw [←h.part.1];exact hP.l6
 have HLL:=Zh h.part.1;have q5:=h.q5;obtain ⟨nv,hnv⟩:=Zx N.vs.length;have HNV:=Zh hnv;rw [←hnv] at hv hvn;clear h hP hp hnv;go_enter func134,ntmps134
 go_wp2_with fail
 clear q5;go_loopw [7] (fun q W=>∃ j:Nat,j≤L∧q=.int .i64 j∧Bw w W∧Qlw ls (v:Int) av=Qxo ls (v:Int) av j) (fun q _=>(intOf q).toNat)
 case atStart=>exact ⟨L,Zn _,rfl,Zr _ _,by unfold Qlw;rw [HLL.o]⟩
 case round =>
  obtain ⟨J,hj,rfl,hb,hlv⟩:=hrel;have HB:=Zh hb;have HLV:=Zh hlv;clear hlv;by_cases h0:J=0;{subst h0;(have e0:¬((1:Int)≤((0:Nat):Int)):=Oo);have HZ:=Zh (show Qlw ls (v:Int) av=0 by rw [HLV.o];rfl);clear hb;(go_wp2_with fail);go_ret;rw [HZ.o];exact ⟨rfl,HB.o⟩}
  · obtain ⟨j,hJ⟩:∃ j,J=j+1:=⟨J-1,Oo⟩;(have e0:1≤(J:Int):=Oo);(have HJ:=Zh hJ;have q5:=(HQ.o wr hb).q5;obtain ⟨qb2,qo,A1,n1,c1,l,rfl,hl,k0,k1,_,_⟩:=(HQ.o wr hb).part.at_ (i:=j) Oo;have hlo:=HP.o.lvl l (Zm hl);obtain rfl:nv=n1:=by rw [←k1.1,HNV.o];exact hlo.len.symm);(obtain ⟨lb,lo,z,rfl,hz,cv⟩:=k1.at_ (i:=v) hv;obtain ⟨mi,ni,fi,hpl⟩:=HPL.o wr hb j l hl;obtain ⟨zn,hzn,hzm,hzz⟩:=Qev hlo (by rw [←HNV.o];exact hv);obtain rfl:z=(zn:Int):=by rw [←hzn];exact (Qcf hz).symm);have hzb:zn≤1000000000000:=by{have:=Qcr (l:=l) (n:=(N.vs.length:Int)) (fun x hx=>hlo.hi x hx) Oo;have:=HNV.o;omega}
    have HAP:=Zh (show Qgg ls j (v:Int) av↔(fi zn).getD 0=0 from by
     rw [hpl.iff zn]
     constructor
     · rintro ⟨l',hl',g⟩
       rw [hl] at hl'
       cases hl'
       intro x hx e;exact g x hx (by rw [hzn,e])
     · intro g
       exact ⟨l,hl,fun x hx e=>g x hx (by rw [←e,hzn])⟩)
    (have e1:(J:Int)-1=j:=Oo);(have e2:0≤(j:Int):=Oo);(have e3:(j:Int)<L:=Oo);(have e4:0≤(v:Int):=Oo);(have e5:(v:Int)<nv:=Oo);(have e6:¬((v:Int)<0):=Oo);(have e7:¬((nv:Int)≤v):=Oo);have wl:IntKind.i64.wrap (j:Int)=(j:Int):=IntWalk.i64_in _ Oo;have hlk:=fun V (hV:Bw wr V)=>(hpl.m.below hV).look zn hzb
    have HSX:=Zh (show ∀ V,V=wr.drew→V.cell? ⟨pb,j,none⟩=some (.map (some mi))∧V.cell? ⟨lb,lo+v,none⟩=some (.int .i64 (zn:Int))∧(Instr.lookup 226 (.map (some mi)) (.int .i64 (zn:Int)) false).run prog V=.ok (.int .i64 (((fi zn).getD 0:Nat):Int)) V from fun V hV=>by
     subst hV;exact ⟨hpl.c,cv,hlk _ (Zr _ _).drew⟩)
    obtain ⟨u,hu⟩:=Zx ((fi zn).getD 0);rw [←hu] at HSX HAP;have HL:=Zh hl;clear hl hlo k1 hb hJ h0 hpl hz hzn hzm hzz hzb hlk hu cv;(go_wp2_with fail);refine wp_region_held_drew (S:=fun V=>V=wr.drew) Kf rfl (fun _=>?_);refine tzd 0 34 ?_;refine tzd 4 38 ?_;refine tzb 8 42 ?_;refine tz 10 44 ?_;refine Zd ?_;by_cases hu0:u=0;{(have e8:((u:Int) == 0)=true:=by simp [hu0]);have HZ:=Zh (show Qlw ls (v:Int) av=J by rw [HLV.o,HJ.o];exact lvTo_yes (HAP.o.2 hu0));clear HSX hu0;(go_wp2_with fail);go_ret;rw [HZ.o];exact ⟨rfl,HB.o.drew⟩};{(have e8:((u:Int) == 0)=false:=by simp;exact hu0);have HZ:=Zh (show Qlw ls (v:Int) av=Qxo ls (v:Int) av j by rw [HLV.o,HJ.o];exact lvTo_no (fun h=>hu0 (HAP.o.1 h)));clear HSX hu0;(go_wp2_with fail);go_roundw;(case rel=>exact ⟨j,Oo,by go_num,HB.o.drew,HZ.o⟩);case measure=>(have:=HJ.o;simp [intOf];omega)}
theorem infoMI:(Tryz.prog.info? 226).map (fun i=>(i.zero,i.size,i.bytes))=some (some (.map none),1,8):=Kf
theorem Rcs (n:Nat)(hn:n≤1000000)(W:World):(Instr.makeSlice 228 (.int .i64 (n:Int)) (.int .i64 (n:Int))).run prog W=.ok (.slice (some ⟨W.heap.size,0,none⟩) n n) (W.alloc (.cells (Qbg (.map none) n) 226)) :=
 Qcv (P:=prog) 228 226 (.map none) 8 infoMI underlying228 rfl n Oo Oo .i64 .i64 W
theorem Qly {w:World}{o:Oper}{a:Act}{K:Act→World→Prop}{Q:Exit→Act→World→Prop}{b n:Nat}{f:Nat→Option Nat}(m x v:Operand)(hop:o.op=Op.mapUpdate 226 m x v)(k u:Nat) (hm:a.eval m=.map (some b)) (h:MpI w b n f) (hn:n≤1000000000) (hx:a.eval x=.int .i64 (k:Int)) (hv:a.eval v=.int .i64 (u:Int)) (hk:k≤1000000000000) (hu:u≤1000000000000)
 (hK:∀ w',MpI w' b (n+1) (fun q=>if q=k then some u else f q)→w.grownBy w' (some b)→K (a.put o.dst undef) w'):Oper.wp prog o a w K Q:=by
 obtain ⟨D,h1,h2,h3⟩:=h;obtain ⟨w',hrun,g1,g2⟩:=h1.update Qjc underlying226 (by unfold maxLen;omega) (Qla hk) (show plainElem prog 3 (.int .i64 (u:Int))=some ((.lit (.int .i64 (u:Int)):DataW Unit),[]) from plainElem_int underlying3 (WalkArith.wf_i64 Oo))
 have hf:=hK w' ⟨_,g1,h2.put _ _,fun q hq=>by
  have hkl:WideAt.IsKeyLit (Lit.int .i64 (k:Int)):=by simp [WideAt.IsKeyLit]
  by_cases e:q=k
  · subst e
    exact Kbz
  · simp only [if_neg e]
    exact ⟨(has_put_other (Qql e) _).trans (h3 q hq).1,fun v e2 z=>(atKey_put_other (Qql e) _ _).trans ((h3 q hq).2 v e2 z)⟩⟩ g2
 unfold Oper.wp;simp [execOp,hop,hm,hx,hv,hrun,Result.andThen];exact hf
def Qfx (l:List (Option Nat)):Array Value:=(l.map Value.map).toArray
theorem Rcg (l:List (Option Nat)) (i:Nat) (b:Option Nat):(Qfx l).setIfInBounds i (.map b)=Qfx (l.set i b):=by unfold Qfx;rw [Yi,List.map_set]
theorem Qid {l:List (Option Nat)} {i:Nat} {b:Option Nat} (h:l[i]?=some b):(Qfx l)[i]?=some (.map b):=by unfold Qfx;rw [Yo,Yt,h];rfl
structure LvM (W:World) (ml:List (Option Nat)) (l:Iz) (av:Iz) (i:Nat) (b n:Nat) (f:Nat→Option Nat):Prop where
 c:ml[i]?=some (some b)
 m:MpI W b n f
 iff:∀ c:Nat,(f c).getD 0=0↔∀ x∈av,Qad l x≠(c:Int)
theorem LvM.grown {W W':World} {ml:List (Option Nat)} {l av:Iz} {i b n g:Nat} {f:Nat→Option Nat} (h:LvM W ml l av i b n f) (hg:W.grownBy W' (some g)) (hb:b≠g):LvM W' ml l av i b n f:=⟨h.c,h.m.grown hg (fun e=>hb (by injection e with e;exact e.symm)),h.iff⟩
def Qtj (W:World) (ml:List (Option Nat)) (ls:Lz) (av:Iz) (j A B:Nat):Prop:=∀ i l,i<j→ls[i]?=some l→∃ b n f,LvM W ml l av i b n f∧A≤b∧b<B
theorem Qtj.grown {W W':World} {ml:List (Option Nat)} {ls:Lz} {av:Iz} {j A B g:Nat} (h:Qtj W ml ls av j A B) (hg:W.grownBy W' (some g)) (hB:B≤g∨g<A):Qtj W' ml ls av j A B:=fun i l hi hl=>by obtain ⟨b,n,f,h1,h2,h3⟩:=h i l hi hl;exact ⟨b,n,f,h1.grown hg Oo,h2,h3⟩
theorem Qtj.below {W W':World} {ml:List (Option Nat)} {ls:Lz} {av:Iz} {j A B:Nat} (h:Qtj W ml ls av j A B) (hb:Bw W W'):Qtj W' ml ls av j A B:=fun i l hi hl=>by obtain ⟨b,n,f,h1,h2,h3⟩:=h i l hi hl;exact ⟨b,n,f,⟨h1.c,h1.m.below hb,h1.iff⟩,h2,h3⟩
theorem Qtj.put {W:World} {ml:List (Option Nat)} {ls:Lz} {av:Iz} {j A B:Nat} (h:Qtj W ml ls av j A B) (m:Option Nat):Qtj W (ml.set j m) ls av j A B:=fun i l hi hl=>by obtain ⟨b,n,f,h1,h2,h3⟩:=h i l hi hl;exact ⟨b,n,f,⟨by rw [Yh Oo];exact h1.c,h1.m,h1.iff⟩,h2,h3⟩
theorem Qtj.succ {W:World} {ml:List (Option Nat)} {ls:Lz} {av l:Iz} {j A B b n:Nat} {f:Nat→Option Nat} (h:Qtj W ml ls av j A b) (hl:ls[j]?=some l) (hn:LvM W ml l av j b n f) (hA:A≤b) (hB:b<B):Qtj W ml ls av (j+1) A B:=fun i l' hi hl'=>by by_cases e:i=j;{subst e;rw [hl] at hl';cases hl';exact ⟨b,n,f,hn,hA,hB⟩};{obtain ⟨b',n',f',h1,h2,h3⟩:=h i l' Oo hl';exact ⟨b',n',f',h1,h2,Oo⟩}
def Qrd (l:Iz)(av:Iz)(f:Nat→Option Nat):Prop:=∀ c:Nat,(f c).getD 0=0↔∀ x∈av,Qad l x≠(c:Int)
theorem Qrd.nil (l:Iz):Qrd l [] (fun _=>none):=fun c=>⟨fun _ x hx=>(by cases hx),fun _=>rfl⟩
theorem Qrd.put {l av:Iz}{f:Nat→Option Nat}(h:Qrd l av f){x:Int}{k:Nat} (hk:Qad l x=(k:Int)):Qrd l (av ++[x]) (fun q=>if q=k then some 1 else f q):=fun c=>by by_cases e:c=k;{subst e;simp only [if_pos];constructor;{intro h1;simp at h1};{intro h1;exact absurd hk (h1 x Sm)}};{simp only [if_neg e];rw [h c];constructor;{intro h1 y hy;(rcases List.mem_append.1 hy with hy|hy);{exact h1 y hy};{rw [List.mem_singleton.1 hy,hk];intro e2;exact e Oo}};{intro h1 y hy;exact h1 y (List.mem_append.2 (.inl hy))}}
def PlnG (W:World)(pb:Nat) (ls:Lz) (av:Iz) (A B:Nat):Prop:=∀ i l,ls[i]?=some l→∃ b n f,PlnL W pb l av i b n f∧A≤b∧b<B
def avM (N:Qak)(s:Nat)(tl:Iz)(i:Nat):Iz:=toV N s::(tl.take i).map (fun t=>frV N t.toNat)
theorem avM_succ {N:Qak}{s i:Nat}{tl:Iz}{t:Int} (h:tl[i]?=some t):avM N s tl (i+1)=avM N s tl i ++[frV N t.toNat]:=by unfold avM;rw [List.take_add_one,h,List.map_append];rfl
theorem Qri {B g:Nat}{a w w':World}(h:Below B a w) (hg:w.grownBy w' (some g)) (hB:B≤g) (hz:B≤w.heap.size):Below B a w' :=
 h.trans ⟨hg.os,hg.tape,hg.output,hg.size,fun k hk=>hg.block k Oo (fun e=>by injection e with e;omega)⟩
theorem Rgo (w:World)(qb g o:Nat)(N:Qak) (ls:Lz) (TA:Oz) (nt ct:Nat) (tl:Iz) (CA:Oz) (NC cC:Nat) (cl:Iz) (Q:Oz) (L cq mb s:Nat) (xs:Tri) (h:MR w qb g o N ls TA nt ct tl CA NC cC cl Q L cq mb) (hok:Qar N) (hP:Qbt N.vs.length ls) (hxs:N.ar[s]?=some xs) (hts:∀ (i:Nat) (t:Int),tl[i]?=some t→∃ (a:Nat) (y:Tri),t=(a:Int)∧N.ar[a]?=some y) (hnt:nt≤1000000) :
 Calls prog 129 #[.pointer (some ⟨qb,0,none⟩),.int .i64 s] w fun e w'=>(∃ pb,e=.returned (.slice (some ⟨pb,0,none⟩) L L)∧PlnG w' pb ls (avM N s tl nt) (w.heap.size+1) w'.heap.size∧pb=w.heap.size∧w.heap.size<w'.heap.size)∧Bw w w':=by
 have HQ:=Zh (fun V (hV:Bw w V)=>h.below hV);have HP:=Zh hP;have HOK:=Zh hok;have hL6:L≤6:=by rw [←h.part.1];exact hP.l6
 have HLL:=Zh h.part.1;have HTO:=Zh (fun V (hV:Bw w V)=>Qjx g s N xs V ((h.below hV).gr) hxs);have HFR:=Zh (fun (a:Nat) (y:Tri) (hy:N.ar[a]?=some y) V (hV:Bw w V)=>Qmp g a N y V ((h.below hV).gr) hy);have HTS:=Zh hts;obtain ⟨u0,vs,es1,es2,hus,hvs⟩:=Qjp hok hxs;rw [es2] at HTO;have HSV:=Zh (show toV N s=(vs:Int) by rw [(Qbw hxs).1,es2]);have hnv:=hok.lv;have q5:=h.q5;have ql:=Qaj q5;simp only at ql;have hmk:=Rcs L Oo;have hmm:=@run_makeMap prog;clear h hok hP hxs hts es1 hus;go_enter func129,ntmps129
 go_wp2_with fail
 (refine Qai ?_;intro w1 hw1);have HB1:=Zh (show Bw w w1 by rw [hw1];exact Qag)
 have HP1:=Zh (show Blk w1 w.heap.size 226 (Qfx (List.replicate L none)) by
  rw [hw1];have e:Qbg (.map none) L=Qfx (List.replicate L none):=by simp [Qbg,Qfx]
  rw [←e];exact Blk.new _ _ _)
 have HZ1:=Zh (show w1.heap.size=w.heap.size+1 by rw [hw1,World.size_alloc]);clear hw1 q5 ql hmk;go_loopw [23] (fun q W=>∃ (j:Nat) (ml:List (Option Nat)),j≤L∧q=.int .i64 j∧Bw w W∧Blk W w.heap.size 226 (Qfx ml)∧ml.length=L∧Qtj W ml ls (avM N s tl nt) j (w.heap.size+1) W.heap.size∧w.heap.size+1≤W.heap.size) (fun q _=>L-(intOf q).toNat)
 case atStart=>exact ⟨0,_,Nat.zero_le _,rfl,HB1.o,HP1.o,List.length_replicate ..,fun i l hi=>by omega,by rw [HZ1.o];exact Zn _⟩
 case round =>
  obtain ⟨j,ml,hj,rfl,hb,hpb,hml,hlv,hsz⟩:=hrel;have HB:=Zh hb;have HLV:=Zh hlv;have HPB:=Zh hpb;have HML:=Zh hml;by_cases hlt:j<L
  rotate_left;{(obtain rfl:j=L:=Oo);(have i1:¬(j:Int)<j:=Oo);clear hb hpb hml hlv;(go_wp2_with fail);go_ret;refine ⟨⟨w.heap.size,rfl,fun i l hl=>?_,rfl,hsz⟩,HB.o⟩;obtain ⟨b,n,f,h1,h2,h3⟩:=HLV.o i l (by have:=(Zs hl).1;rw [HLL.o] at this;exact this) hl;exact ⟨b,n,f,⟨by rw [HPB.o.cell];exact Qid h1.c,h1.m,h1.iff⟩,h2,h3⟩};have hq:=HQ.o wr hb;obtain ⟨qb2,qo,A1,n1,c1,l,rfl,hl,k00,k1,_,_⟩:=(HQ.o w (Zr _ _)).part.at_ (i:=j) hlt;have k0:=Zc hb (Zn _) k00;have hlo:=HP.o.lvl l (Zm hl);obtain rfl:n1=N.vs.length:=by rw [←k1.1];exact hlo.len
  have HLO:=Zh hlo;have HL:=Zh hl;have HR:=Zh k1;have i1:(j:Int)<L:=Oo
  have i2:0≤(j:Int):=Oo
  obtain ⟨mo,hmo⟩:∃ mo,ml[j]?=some mo:=⟨_,Zg Oo⟩;have p0:wr.cell? ⟨w.heap.size,j,none⟩=some (.map mo):=by rw [hpb.cell];exact Qid hmo
  have fp0:=hpb.frozen j;have pl:=hpb.lt;have q0:=hq.q0;have ql:=Qaj q0;simp only at ql;have qn:=Qaj (HQ.o w (Zr _ _)).q0;simp only at qn;have qn2:¬w.heap.size=qb:=Oo
  obtain ⟨mj,hmj⟩:=Zx wr.heap.size;obtain ⟨w2,hw2⟩:∃ V,V=(wr.setCell ⟨w.heap.size,j,none⟩ (.map (some mj))).alloc (.map #[] 0):=⟨_,rfl⟩;have hz0:(wr.setCell ⟨w.heap.size,j,none⟩ (.map (some mj))).heap.size=mj:=by rw [hmj];simp [World.setCell]
  have hpm:w.heap.size≠mj:=Oo
  have HM2:=Zh (show MpI w2 mj 0 (fun _=>none) by rw [hw2];exact MpI.new' _ hz0.symm);have HP2:=Zh (show Blk w2 w.heap.size 226 (Qfx (ml.set j (some mj))) by rw [hw2,←Rcg];exact Blk.alloc (hpb.set_ j _) _);have HL2:=Zh (show Qtj w2 (ml.set j (some mj)) ls (avM N s tl nt) j (w.heap.size+1) mj by rw [hw2];rw [←hmj] at hlv;exact ((hlv.grown (Qac wr w.heap.size j (.map (some mj))) (.inr (Nat.lt_succ_self _))).below ((Zr _ _).alloc (Zn _) _)).put _);have HB2:=Zh (show Bw w w2 by rw [hw2];exact Bel.alloc (hb.setCell (Zn _) _));have HZ2:=Zh (show w2.heap.size=mj+1 by rw [hw2,World.size_alloc,hz0]);have HMJ:=Zh (show w.heap.size+1≤mj by omega);have HW2:=Zh hw2;have HMJE:=Zh hmj;have hmlj:(ml.set j (some mj))[j]?=some (some mj):=by rw [Yg Oo]
  obtain ⟨ml',hml'⟩:∃ x,x=ml.set j (some mj):=⟨_,rfl⟩;rw [←hml'] at HP2 HL2 hmlj;have HMLJ:=Zh hmlj;have HML':=Zh (show ml'.length=L by rw [hml',Yq];exact hml);clear hb hpb hml hlv hsz hl hlo k1 hq hmo hpm hz0 hw2 hmlj hml' HB HLV HPB HML k00;go_wp2_with fail
  rw [←HMJE.o,←HW2.o];clear p0 fp0 pl q0 ql qn qn2 k0 HW2 HMJE hmj;with_reducible refine (HTO.o w2 HB2.o).mono ?_
  rintro r w' ⟨rfl,rfl⟩;obtain ⟨lb,lo,z,rfl,hz,cz0⟩:=(HR.o).at_ (i:=vs) hvs;have cz:=Zc HB2.o (Zn _) cz0;obtain ⟨zn,hzn,hzm,hzz⟩:=Qev HLO.o hvs;obtain rfl:z=(zn:Int):=by rw [←hzn];exact (Qcf hz).symm
  have hmo:=Qcr (l:=l) (n:=(N.vs.length:Int)) (fun x hx=>HLO.o.hi x hx) Oo;have hzb:zn≤1000000000000:=Oo
  have HZN:=Zh (show Qad l (toV N s)=(zn:Int) by rw [HSV.o];exact hzn);have p8:w2.cell? ⟨w.heap.size,j,none⟩=some (.map (some mj)):=by rw [HP2.o.cell];exact Qid HMLJ.o
  have c8:=cz;have i3:(vs:Int)<(N.vs.length:Int):=Oo
  have i4:0≤(vs:Int):=Oo
  have HMM:=HM2;clear hz hzz hzm cz cz0 hmo;go_wp2_with fail
  refine Qbk 8 (S:=fun V=>V.cell? ⟨w.heap.size,j,none⟩=some (.map (some mj))∧V.cell? ⟨lb,lo+vs,none⟩=some (.int .i64 (zn:Int))) Kf ⟨p8,c8⟩ (fun _=>?_);refine tkK 0 46 (h:=⟨_,tv,?_⟩);simp only [pE,List.set];refine tkK 1 47 (h:=⟨_,tv,?_⟩);simp only [pE,List.set];refine tkK 2 48 (h:=⟨_,tv,?_⟩);simp only [pE,List.set];refine tkK 3 49 (h:=⟨_,tv,?_⟩);simp only [pE,List.set];refine tkK 4 50 (h:=⟨_,tv,?_⟩);simp only [pE,List.set];refine tkK 5 51 (h:=⟨_,tv,?_⟩);simp only [pE,List.set];refine tkK 6 52 (h:=⟨_,tv,?_⟩);simp only [pE,List.set];refine tkK 7 53 (h:=⟨_,tv,?_⟩);simp only [pE,List.set];have hmq:MpI w2.drew mj 0 (fun _=>none):=MpI.below HMM.out (Zr _ _).drew;refine Qcb (k:=8) Kf rfl (fun K hK=>?_);refine (if_pos (by rfl)).mpr ?_;refine Qly _ _ _ rfl zn 1 rfl hmq Oo rfl rfl hzb Oo (fun w9 hm9 hg9=>?_);refine hK.out _ _ ?_;clear hK K;refine Qbv Kf ?_ _;clear p8 c8 hmq;have HB9:=Zh (show Bw w w9 from Qri HB2.o.drew hg9 (by have:=HMJ.o;omega) (show w.heap.size≤w2.heap.size from HB2.o.size));have HP9:=Zh (show Blk w9 w.heap.size 226 (Qfx ml') from Blk.grown (HP2.o.drew) hg9 (fun e=>by injection e with e;have:=HMJ.o;omega));have HK9:=Zh (show Qrd l (avM N s tl 0) (fun q=>if q=zn then some 1 else none) from (Qrd.nil l).put HZN.o);have HL9:=Zh (show Qtj w9 ml' ls (avM N s tl nt) j (w.heap.size+1) mj from (HL2.o.below (Zr _ _).drew).grown hg9 (.inl (Zn _)));have HM9:=Zh hm9;have q3:=(HQ.o w9 HB9.o).q3;clear hm9 hg9 hzn hzb i3 i4 HMM HM2 HP2 HL2 HB2 HZ2 HZN;go_wp2_with fail
  clear q3;go_loopw [59] (fun q W=>∃ (i nn:Nat) (f:Nat→Option Nat),i≤nt∧q=.int .i64 i∧Bw w W∧Blk W w.heap.size 226 (Qfx ml')∧MpI W mj nn f∧nn≤i+1∧Qrd l (avM N s tl i) f∧Qtj W ml' ls (avM N s tl nt) j (w.heap.size+1) mj) (fun q _=>nt-(intOf q).toNat)
  case atStart=>exact ⟨0,_,_,Nat.zero_le _,rfl,HB9.o,HP9.o,HM9.o,Zn _,HK9.o,HL9.o⟩
  case round =>clear HB9 HP9 HM9 HK9 HL9;obtain ⟨i,nn,f,hi,rfl,hb,hpb,hm,hnn,hk,hlv⟩:=hrel;have HB:=Zh hb;have HPB:=Zh hpb;have HM:=Zh hm;have HK:=Zh hk;have HLV:=Zh hlv;(by_cases hlt2:i<nt);rotate_left;{(obtain rfl:i=nt:=Oo);(have j1:¬(i:Int)<i:=Oo);have hml:=hm.lt;clear hb hpb hm hk hlv;(go_wp2_with fail);go_roundw;(case rel=>exact ⟨j+1,ml',Oo,by go_num,HB.o,HPB.o,HML'.o,HLV.o.succ HL.o ⟨HMLJ.o,HM.o,HK.o⟩ HMJ.o hml,by have:=HMJ.o;omega⟩);case measure=>simp [intOf];omega};have hq:=HQ.o wr hb;obtain ⟨tb,to,t,hTA,ht,ctt⟩:=hq.ts.at_ hlt2;obtain ⟨a,y,rfl,hy⟩:=HTS.o i t ht;obtain ⟨us,v0,ey1,ey2,hus,_⟩:=Qjp HOK.o hy;have HFa:=Zh (ey1▸HFR.o a y hy wr hb);have q0:=hq.q0;obtain ⟨_,_,z,hAA,hz,cz0⟩:=(HR.o).at_ (i:=us) hus;cases hAA;(have cz:=Zc hb (Zn _) cz0;obtain ⟨zn,hzn,hzm,hzz⟩:=Qev HLO.o hus;obtain rfl:z=(zn:Int):=by rw [←hzn];exact (Qcf hz).symm);(have hmo:=Qcr (l:=l) (n:=(N.vs.length:Int)) (fun x hx=>HLO.o.hi x hx) Oo;have hzb:zn≤1000000000000:=Oo);have HZN:=Zh (show Qad l (frV N ((a:Int)).toNat)=(zn:Int) by rw [Yl,(Qbw hy).2.1,ey1];exact hzn);(have HAV:=Zh (avM_succ (N:=N) (s:=s) ht);have p8:wr.cell? ⟨w.heap.size,j,none⟩=some (.map (some mj)):=by rw [hpb.cell];exact Qid HMLJ.o);(have c8:=cz;have i3:(us:Int)<(N.vs.length:Int):=Oo);(have i4:0≤(us:Int):=Oo);(have i5:(i:Int)<nt:=Oo);(have i6:0≤(i:Int):=Oo);have HMM:=HM;subst hTA;clear hz hzz hzm cz cz0 hmo hq hb hpb hm hk hlv ht ey1 ey2 hy;(go_wp2_with fail);(with_reducible refine HFa.o.mono ?_);rintro r w' ⟨rfl,rfl⟩;clear q0 ctt HFa;(go_wp2_with fail);refine Qbk 8 (S:=fun V=>V.cell? ⟨w.heap.size,j,none⟩=some (.map (some mj))∧V.cell? ⟨lb,lo+us,none⟩=some (.int .i64 (zn:Int))) Kf ⟨p8,c8⟩ (fun _=>?_);refine tkK 0 77 (h:=⟨_,tv,?_⟩);simp only [pE,List.set];refine tkK 1 78 (h:=⟨_,tv,?_⟩);simp only [pE,List.set];refine tkK 2 79 (h:=⟨_,tv,?_⟩);simp only [pE,List.set];refine tkK 3 80 (h:=⟨_,tv,?_⟩);simp only [pE,List.set];refine tkK 4 81 (h:=⟨_,tv,?_⟩);simp only [pE,List.set];refine tkK 5 82 (h:=⟨_,tv,?_⟩);simp only [pE,List.set];refine tkK 6 83 (h:=⟨_,tv,?_⟩);simp only [pE,List.set];refine tkK 7 84 (h:=⟨_,tv,?_⟩);simp only [pE,List.set];have hmq:MpI wr.drew mj nn f:=MpI.below HMM.out (Zr _ _).drew;refine Qcb (k:=8) Kf rfl (fun K hK=>?_);refine (if_pos (by rfl)).mpr ?_;refine Qly _ _ _ rfl zn 1 rfl hmq Oo rfl rfl hzb Oo (fun w9 hm9 hg9=>?_);refine hK.out _ _ ?_;clear hK K;refine Qbv Kf ?_ _;clear p8 c8 hmq;have hB9:Bw w w9:=Qri HB.o.drew hg9 (by have:=HMJ.o;omega) (show w.heap.size≤wr.heap.size from HB.o.size);(have hP9:Blk w9 w.heap.size 226 (Qfx ml'):=Blk.grown (HPB.o.drew) hg9 (fun e=>by injection e with e;have:=HMJ.o;omega);have hL9:Qtj w9 ml' ls (avM N s tl nt) j (w.heap.size+1) mj:=(HLV.o.below (Zr _ _).drew).grown hg9 (.inl (Zn _));have hK9:Qrd l (avM N s tl (i+1)) (fun q=>if q=zn then some 1 else f q):=by rw [HAV.o];exact HK.o.put HZN.o);have H9:=Zh (And.intro hB9 (And.intro hP9 (And.intro hm9 (And.intro hK9 hL9))));clear hB9 hP9 hL9 hK9 hm9 hg9 hzn hzb;(go_wp2_with fail);go_roundw;(case rel=>exact ⟨i+1,nn+1,_,Oo,by go_num,H9.o.1,H9.o.2.1,H9.o.2.2.1,Oo,H9.o.2.2.2.1,H9.o.2.2.2.2⟩);case measure=>simp [intOf];omega
