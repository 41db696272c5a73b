/- Parts of the proof: InA, InP, InB, InQ, LeP, Pt, Pa, Gw, Rm, Ls, Pc. -/
import Derived.Test.YtdheeddnkdhfeaaGreatDoorH4
import Derived.Lib.SliceRun
namespace Go.Proofs.YtdheeddnkdhfeaaGreatDoor
open Go.RowKit Go.Proofs.Tryz
attribute [local go_sem ↓] Go.wp_at_zero Go.wp_at_succ
theorem Qck.more {W W':World}{G G':Nat→Prop}{g n:Nat}{hp:Nat→Option Int}(h:Qck W G g n hp)(hb:Below W.heap.size W W') (hG:∀ b,G' b→b<W'.heap.size∧(G b∨W.heap.size≤b)):Qck W' G' g n hp:=by obtain ⟨A,gc,gs,m,c,R,C,S,h1,h2⟩:=h;exact ⟨A,gc,gs,m,c,R,C,S,h1.more hb hG,h2⟩
theorem Qck.less {W:World}{G G':Nat→Prop}{g n:Nat}{hp:Nat→Option Int}(h:Qck W G g n hp)(hG:∀ b,G' b→G b):Qck W G' g n hp:=by obtain ⟨A,gc,gs,m,c,R,C,S,h1,h2⟩:=h;exact ⟨A,gc,gs,m,c,R,C,S,h1.more (Zr _ _) (fun b hb=>⟨h1.lt b (hG b hb),.inl (hG b hb)⟩),h2⟩
theorem Qck.lt {W:World}{G:Nat→Prop}{g n:Nat}{hp:Nat→Option Int}(h:Qck W G g n hp):∀ b,G b→b<W.heap.size:=by obtain ⟨A,gc,gs,m,c,R,C,S,h1,h2⟩:=h;exact h1.lt
theorem Qck.set {W:World}{G:Nat→Prop}{g n k i:Nat}{hp:Nat→Option Int}(h:Qck W G g n hp)(hk:G k)(v:Value):Qck (W.setCell ⟨k,i,none⟩ v) G g n hp:=by
 obtain ⟨A,gc,gs,m,c,R,C,S,h1,h2⟩:=h;have hn:∀ b,¬G b→b≠k:=fun b hb e=>hb (e▸hk)
 exact ⟨A,gc,gs,m,c,R,C,S,⟨h1.blk.far_ (hn _ h1.dG.1) _,h1.row.far (Qad _ _ _ _) (.inr fun e=>(h1.dA k e).2.2.2 hk),h1.cs.far_ (hn _ h1.dG.2.1) _,h1.ss.far_ (hn _ h1.dG.2.2) _,h1.dA,h1.dg,h1.dG,fun b hb=>by simpa [World.setCell] using h1.lt b hb,h1.lr,h1.lc,h1.ls,h1.n0⟩,h2⟩
theorem Le.kept {K:Nat→Prop}{W0 W:World}(h:Qaz K W0 W):Le (msk W0 K) W:=(Qaz.msk h).trans (Qau _ _)
theorem Aft.mono {G G':Nat→Prop}{a b:World}(h:Aft G a b)(hs:∀ b,G' b→G b):Aft G' a b:=⟨h.kept.mono hs,h.size,fun B hB=>h.bel B (fun b hb=>hs b (hB b hb))⟩
theorem nis_idx (f:Tri→Int)(l:List Tri)(v:Int):∃ bs:List Nat,nis bs=idx f l v∧∀ b∈bs,∃ y,l[b]?=some y∧f y=v:=by refine ⟨(idx f l v).map Int.toNat,?_,fun b hb=>?_⟩;{unfold nis;rw [List.map_map];refine (List.map_congr_left (g:=id) fun z hz=>?_).trans (List.map_id _);obtain ⟨i,a,rfl,_⟩:=Qdz.1 hz;simp};{obtain ⟨z,hz,rfl⟩:=List.mem_map.1 hb;obtain ⟨i,a,rfl,h1,h2⟩:=Qdz.1 hz;exact ⟨a,by simpa using h1,h2⟩}
theorem Qlz.gone {St:Qbf}{s:Nat}{dn hp:Nat→Option Int}{p:Nat}{c:Int}{Gone Gone':Nat→Int→Prop}(h:Qlz St s dn hp p c Gone)(hg:∀ r d,St p r d→Gone' r d→Gone r d):Qlz St s dn hp p c Gone' :=
 ⟨h.dr,h.dm,h.hr,h.off,fun q e r d h1 h2=>by
  rcases h.on q e r d h1 h2 with ⟨h3,h4⟩|h3
  · subst h3;exact .inl ⟨rfl,fun h5=>h4 (hg r d h2 h5)⟩
  · exact .inr h3,h.st,h.at_⟩
def StN (N:Qam)(mk:List Bool)(s na:Nat):Qbf:=fun a b d=>∃ y,N.ar[b]?=some y∧Qai N (if a=na then s else a) b≠1152921504606846976∧y.2.2≠1152921504606846976 ∧
 mk.getD y.1.toNat false=true∧mk.getD y.2.1.toNat false=true∧d=Qai N (if a=na then s else a) b+y.2.2
theorem Qdk {u:Int}(h:wOk u=true):u=1152921504606846976∨(0≤u∧u≤2147483648):=by unfold wOk at h;simp only [Bool.or_eq_true,Bool.and_eq_true,decide_eq_true_eq] at h;omega
theorem getD_or (l:List Int)(k:Nat)(d:Int):l.getD k d=d∨l.getD k d∈l:=by
 rcases Nat.lt_or_ge k l.length with h|h
 {exact .inr (Zm (Qbq d h))};{exact .inl (by rw [Ya,Yd h];rfl)}
theorem Qcb {N:Qam}(h:Qap N)(a b:Nat):Qai N a b=1152921504606846976∨(0≤Qai N a b∧Qai N a b≤2147483648):=by unfold Qai;split;{split;{split;{split;{rename_i t ht;(rcases getD_or t.costs ((Qha N.ar a _).1.toNat*t.outs.toNat+(Qha N.ar b _).2.toNat) 1152921504606846976 with h1|h1);{exact .inl h1};{exact Qdk ((h.tabs t (Zm ht)).ok _ h1)}};{exact .inl rfl}};{exact .inl rfl}};{exact .inl rfl}};{exact .inl rfl}
theorem Qbm {N:Qam}{a b:Nat}(h:Qai N a b≠1152921504606846976):∃ x y,N.ar[a]?=some x∧N.ar[b]?=some y∧x.2.1=y.1:=by
 unfold Qai at h;split at h
 {rename_i x y hx hy;by_cases e:x.2.1=y.1;{exact ⟨x,y,hx,hy,e⟩};{rw [if_neg e] at h;exact absurd rfl h}};{exact absurd rfl h}
def StA (N:Qam)(mk:List Bool):Qbf:=fun a b d=>∃ y,N.ar[b]?=some y∧Qai N a b≠1152921504606846976∧y.2.2≠1152921504606846976 ∧
 mk.getD y.1.toNat false=true∧mk.getD y.2.1.toNat false=true∧d=Qai N a b+y.2.2
def OuA (N:Qam):Qbf:=fun a t d=>Qai N a t≠1152921504606846976∧d=Qai N a t
def Qet (N:Qam)(mk:List Bool)(s t:Nat)(v:Int):Prop:=Lst (Qok (StA N mk) (OuA N) s t) v
theorem StA.lt {N:Qam}{mk:List Bool}{a b:Nat}{d:Int}(h:StA N mk a b d):b<N.ar.length:=by obtain ⟨y,hy,_⟩:=h;exact (Zs hy).1
theorem StN.stA {N:Qam}{mk:List Bool}{s na a b:Nat}{d:Int}(h:StN N mk s na a b d):StA N mk (if a=na then s else a) b d:=h
theorem StA.bd {N:Qam}(hok:Qap N){mk:List Bool}{a b:Nat}{d:Int}(h:StA N mk a b d):0≤d∧d≤4294967296:=by obtain ⟨y,hy,h1,h2,_,_,rfl⟩:=h;have h3:=(Qcb hok a b).resolve_left h1;have h4:=(Qdk (hok.arcs y (Zm hy)).w).resolve_left h2;omega
theorem OuA.bd {N:Qam}(hok:Qap N){a t:Nat}{d:Int}(h:OuA N a t d):0≤d∧d≤2147483648:=by obtain ⟨h1,rfl⟩:=h;exact (Qcb hok a t).resolve_left h1
def MB:Int:=70373039144960
theorem rchN_bd {N:Qam}(hok:Qap N){mk:List Bool}{s:Nat}(p:Nat)(c:Int) (h:Rch (StN N mk s N.ar.length) N.ar.length p c):∃ e,Rch (StN N mk s N.ar.length) N.ar.length p e∧e≤MB:=by obtain ⟨e,h1,h2⟩:=Rch.bound (n:=N.ar.length) (D:=4294967296) (by omega) (fun p q d h=>⟨(StN.stA h).lt,((StN.stA h).bd hok).2⟩) h;refine ⟨e,h1,?_⟩;have:=hok.la;unfold MB;omega
theorem Qhm {N:Qam}(hok:Qap N){mk:List Bool}{s:Nat}(p:Nat)(c:Int) (h:Rch (StA N mk) s p c):∃ e,Rch (StA N mk) s p e∧e≤MB:=by exact Kcb
theorem Qet.bd {N:Qam}(hok:Qap N){mk:List Bool}{s t:Nat}{v:Int}(h:Qet N mk s t v):v=1152921504606846976∨(0≤v∧v≤70375186628608):=by
 rcases h with ⟨⟨p,c,d,h1,h2,rfl⟩,hm⟩|⟨h1,_⟩
 {(right);have hc:=h1.pos (fun p q d h=>(h.bd hok).1);have hd:=h2.bd hok;obtain ⟨e,h3,h4⟩:=Qhm hok p c h1;have:=hm (e+d) ⟨p,e,d,h3,h2,rfl⟩;unfold MB at h4;omega};{exact .inl h1}
theorem Qrv {bs:List Nat}{l:List Int}(h:nis bs=l)(b:Nat):b∈bs↔(b:Int)∈l:=by rw [←h];unfold nis;constructor;{intro hb;exact List.mem_map.2 ⟨b,hb,rfl⟩};{intro hb;(obtain ⟨c,hc,e⟩:=List.mem_map.1 hb;have:c=b:=by omega);rwa [←this]}
theorem outs_mem {N:Qam}{a b:Nat}{x:Tri} (hx:N.ar[a]?=some x) {bs:List Nat} (hbs:nis bs=idx (·.1) N.ar x.2.1) (h:Qai N a b≠1152921504606846976):b∈bs:=by obtain ⟨x',y,h1,h2,h3⟩:=Qbm h;rw [hx] at h1;cases h1;exact (Qrv hbs b).2 (Qdz.2 ⟨b,y,rfl,h2,h3.symm⟩)
theorem getD_rep (n q:Nat):(List.replicate n false).getD q false=false:=by rw [Ya,List.getElem?_replicate];split <;> rfl
end Go.Proofs.YtdheeddnkdhfeaaGreatDoor
namespace Go.Proofs.YtdheeddnkdhfeaaGreatDoor
abbrev Stp:=Nat×Int×Int
def StF (L:Nat→List Stp):Qbf:=fun p q d=>∃ s∈L p,s.2.1<0∧s.1=q∧s.2.2=d
def OuF (L:Nat→List Stp):Qbf:=fun p k d=>∃ s∈L p,s.2.1=(k:Int)∧s.2.2=d
def Qcs (dn:List Bool)(c:Int) (st:List Int×(Nat→Option Int)) (s:Stp):List Int×(Nat→Option Int) :=
 if 0≤s.2.1 then (st.1.set s.2.1.toNat (min (st.1.getD s.2.1.toNat 0) (c+s.2.2)),st.2)
 else (st.1,if dn.getD s.1 false=false then Qfg st.2 s.1 (c+s.2.2) else st.2)
structure Qoi (L:Nat→List Stp) (n outs:Nat) (D:Int):Prop where
 to_:∀ p,p<n→∀ s∈L p,s.2.1<0→s.1<n
 out:∀ p,p<n→∀ s∈L p,s.2.1<outs
 bd:∀ p,p<n→∀ s∈L p,0≤s.2.2∧s.2.2≤D
theorem Qsx {L:Nat→List Stp}{n:Nat}{dn:List Bool}{s p:Nat}{dnf:Nat→Option Int}{c:Int} (hdn:∀ q,q<n→(dn.getD q false=true↔dnf q≠none)) :
 ∀ (l:List Stp) (st:List Int×(Nat→Option Int)) (Gone:Nat→Int→Prop),(∀ x∈l,x∈L p∧(x.2.1<0→x.1<n))→Qlz (StF L) s dnf st.2 p c Gone →
  Qlz (StF L) s dnf (l.foldl (Qcs dn c) st).2 p c (fun r e=>Gone r e∨∃ x∈l,x.2.1<0∧x.1=r∧x.2.2=e)
 | [],st,Gone,_,h=>h.gone (fun r d _ hg=>hg.elim id (fun ⟨_,e,_⟩=>by cases e))
 | x::l,(row,hp),Gone,hb,h=>by
  have hx:=hb x (by simp)
  have h1:Qlz (StF L) s dnf (Qcs dn c (row,hp) x).2 p c (fun r e=>Gone r e∨(x.2.1<0∧x.1=r∧x.2.2=e)):=by
   unfold Qcs;by_cases ho:0≤x.2.1;{simp only [if_pos ho];exact h.gone (fun r d _ hg=>hg.elim id (fun e=>by omega))}
   · simp only [if_neg ho];have hst:StF L p x.1 x.2.2:=⟨x,hx.1,by omega,rfl,rfl⟩;by_cases h5:dn.getD x.1 false=true;{have hne:=(hdn x.1 (hx.2 (by omega))).1 h5;rw [if_neg (by rw [h5];simp)];exact (h.put hst (.inl ⟨hne,fun e he=>h.dm x.1 e he _ ((h.dr p c h.at_).step hst),rfl⟩)).gone (fun r d _ hg=>hg.elim .inl (fun e=>.inr ⟨e.2.1.symm,e.2.2.symm⟩))}
     · (have h6:dn.getD x.1 false=false:=by simpa using h5);rw [if_pos h6]
       have hno:dnf x.1=none:=by
        cases hd:dnf x.1 with
        | none=>rfl
        | some e=>exact absurd ((hdn x.1 (hx.2 (by omega))).2 (by rw [hd];simp)) h5
       refine (h.put (hp':=Qfg hp x.1 (c+x.2.2)) hst (.inr ⟨hno,fun r hr=>by unfold Qfg;rw [if_neg hr],?_⟩)).gone (fun r d _ hg=>hg.elim .inl (fun e=>.inr ⟨e.2.1.symm,e.2.2.symm⟩));unfold Qfg;rw [if_pos rfl];dsimp only
       cases hv:hp x.1 with
       | none=>exact .inr ⟨fun e he=>(by cases he),rfl⟩
       | some z =>by_cases hz:z≤c+x.2.2;{exact .inl ⟨z,rfl,hz,by simp [hz]⟩};{exact .inr ⟨fun e he=>(by cases he;omega),by simp [hz]⟩}
  have h2:=Qsx hdn l _ _ (fun q hq=>hb q (by simp [hq])) h1;refine h2.gone (fun r d _ hg=>?_);rcases hg with hg|⟨y,hy,hg⟩
  {exact .inl (.inl hg)};{(rcases List.mem_cons.1 hy with e|e);{subst e;exact .inl (.inr hg)};{exact .inr ⟨y,e,hg⟩}}
theorem Qkg {dn:List Bool}{c:Int}:∀ (l:List Stp) (st:List Int×(Nat→Option Int)),(l.foldl (Qcs dn c) st).1.length=st.1.length
 | [],st=>rfl
 | x::l,st=>by rw [List.foldl_cons,Qkg l];unfold Qcs;split <;> simp
theorem Qsw {dn:List Bool}{c D B:Int}(hc:c+D≤B):∀ (l:List Stp) (st:List Int×(Nat→Option Int)),(∀ x∈l,x.2.2≤D)→(∀ q e,st.2 q=some e→e≤B) →
 ∀ q e,(l.foldl (Qcs dn c) st).2 q=some e→e≤B
 | [],st,_,h=>h
 | x::l,(row,hp),hb,h=>by
  have hx:=hb x (by simp);refine Qsw hc l _ (fun y hy=>hb y (by simp [hy])) ?_;intro q e hq;unfold Qcs at hq;split at hq
  {exact h q e hq};{simp only at hq;(split at hq);{unfold Qfg at hq;by_cases e1:q=x.1;{rw [if_pos e1] at hq;(split at hq);{cases hq;omega};{rename_i z hz;have:=h x.1 z hz;split at hq <;> (cases hq;omega)}};{rw [if_neg e1] at hq;exact h q e hq}};{exact h q e hq}}
theorem Qpd {dn:List Bool}{c:Int}(k:Nat):∀ (l:List Stp) (st:List Int×(Nat→Option Int)),k<st.1.length →
 (l.foldl (Qcs dn c) st).1.getD k 0≤st.1.getD k 0∧(∀ x∈l,x.2.1=(k:Int)→(l.foldl (Qcs dn c) st).1.getD k 0≤c+x.2.2) ∧
  ((l.foldl (Qcs dn c) st).1.getD k 0=st.1.getD k 0∨∃ x∈l,x.2.1=(k:Int)∧(l.foldl (Qcs dn c) st).1.getD k 0=c+x.2.2)
 | [],st,_=>⟨Int.le_refl _,fun x hx=>(by cases hx),.inl rfl⟩
 | x::l,st,hk=>by
  have hl:(Qcs dn c st x).1.length=st.1.length:=by unfold Qcs;split <;> simp
  obtain ⟨h1,h2,h3⟩:=Qpd k l (Qcs dn c st x) (by rw [hl];exact hk);rw [List.foldl_cons];have hs:(Qcs dn c st x).1.getD k 0=if x.2.1=(k:Int) then min (st.1.getD k 0) (c+x.2.2) else st.1.getD k 0:=by{unfold Qcs;by_cases ho:0≤x.2.1;{simp only [if_pos ho];by_cases e:x.2.1=(k:Int);{rw [if_pos e,e,Yl];simp [hk]};{rw [if_neg e];(have:¬x.2.1.toNat=k:=by omega);simp [this]}};{simp only [if_neg ho];rw [if_neg (by omega)]}}
  generalize hz:(Qcs dn c st x).1.getD k 0=z at h1 h3 hs;generalize hy:(l.foldl (Qcs dn c) (Qcs dn c st x)).1.getD k 0=y at h1 h2 h3 ⊢;refine ⟨by split at hs <;> omega,fun u hu e=>?_,?_⟩;{(rcases List.mem_cons.1 hu with rfl|hu);{rw [if_pos e] at hs;omega};{exact h2 u hu e}};{(rcases h3 with h3|⟨u,hu,h4,h5⟩);{by_cases e:x.2.1=(k:Int);{rw [if_pos e] at hs;by_cases h6:st.1.getD k 0≤c+x.2.2;{exact .inl (by omega)};{exact .inr ⟨x,by simp,e,by omega⟩}};{rw [if_neg e] at hs;exact .inl (by omega)}};{exact .inr ⟨u,by simp [hu],h4,h5⟩}}
structure LeI (L:Nat→List Stp) (n outs start:Nat) (B:Int) (dnf hp:Nat→Option Int) (dn:List Bool) (row:List Int):Prop where
 dij:Dij (StF L) start dnf hp
 fl:∀ q,q<n→(dn.getD q false=true↔dnf q≠none)
 dlt:∀ q,n≤q→dnf q=none
 bd:∀ q e,hp q=some e→e≤B
 best:∀ k,k<outs→OutB (OuF L) dnf k (row.getD k 0) (fun _=>False)
 ld:dn.length=n
 lr:row.length=outs
theorem LeI.init {L:Nat→List Stp}{n outs start:Nat}{B:Int}{hp:Nat→Option Int}{row:List Int}(hB:0≤B)(h:∀ q,hp q=if q=start then some 0 else none)(hr:row=List.replicate outs 1152921504606846976):LeI L n outs start B (fun _=>none) hp (List.replicate n false) row:=by subst hr;refine ⟨Dij.init _ _ h,fun q _=>?_,fun q _=>rfl,fun q e hq=>?_,fun k hk=>⟨fun p c d h=>(by cases h),.inl ?_⟩,by simp,by simp⟩;{rw [Ya,List.getElem?_replicate];split <;> simp};{rw [h] at hq;(split at hq);{cases hq;exact hB};{cases hq}};{rw [Ya,List.getElem?_replicate,if_pos hk];rfl}
theorem StF.bd {L:Nat→List Stp}{n outs:Nat}{D:Int}(h:Qoi L n outs D) (he:∀ p,n≤p→L p=[]) {p q:Nat} {d:Int} (hs:StF L p q d):0≤d∧d≤D∧p<n∧q<n:=by
 obtain ⟨s,h1,h2,rfl,rfl⟩:=hs
 have hp:p<n:=by
  rcases Nat.lt_or_ge p n with h3|h3
  {exact h3};{rw [he p h3] at h1;cases h1}
 exact ⟨(h.bd p hp s h1).1,(h.bd p hp s h1).2,hp,h.to_ p hp s h1 h2⟩
theorem OuF.bd {L:Nat→List Stp}{n outs:Nat}{D:Int}(h:Qoi L n outs D) (he:∀ p,n≤p→L p=[]) {p k:Nat} {d:Int} (hs:OuF L p k d):0≤d∧d≤D:=by
 obtain ⟨s,h1,h2,rfl⟩:=hs
 have hp:p<n:=by
  rcases Nat.lt_or_ge p n with h3|h3
  {exact h3};{rw [he p h3] at h1;cases h1}
 exact h.bd p hp s h1
theorem LeI.next {L:Nat→List Stp}{n outs start p:Nat}{M D B c:Int}{dnf hp:Nat→Option Int}{dn:List Bool}{row:List Int}(h:LeI L n outs start B dnf hp dn row)(hf:Qoi L n outs D) (he:∀ p,n≤p→L p=[])
 (hM:∀ p c,Rch (StF L) start p c→∃ e,Rch (StF L) start p e∧e≤M) (hB:M+D≤B) (hpn:p<n) (hp1:hp p=some c) (hm:∀ q e,hp q=some e→c≤e) :
 LeI L n outs start B (fun q=>if q=p then some c else dnf q) ((L p).foldl (Qcs (dn.set p true) c) (row,fun q=>if q=p then none else hp q)).2 (dn.set p true) ((L p).foldl (Qcs (dn.set p true) c) (row,fun q=>if q=p then none else hp q)).1:=by
 have h0:∀ p q d,StF L p q d→0≤d:=fun p q d hs=>(StF.bd hf he hs).1
 have hno:dnf p=none:=by
  cases hd:dnf p with
  | none=>rfl
  | some e=>have:=h.dij.off p e hd;rw [hp1] at this;cases this
 have hfl:∀ q,q<n→((dn.set p true).getD q false=true↔(fun q=>if q=p then some c else dnf q) q≠none):=fun q hq=>by{by_cases e:q=p;{subst e;(have:q<dn.length:=by rw [h.ld];exact hq);simp [this]};{(have e':¬p=q:=fun x=>e x.symm);exact Kcu}};have hc:c≤M:=h.dij.bdTake h0 hM hp1 hm;have hdj:=Qsx (L:=L) (n:=n) hfl (L p) (row,fun q=>if q=p then none else hp q) _ (fun x hx=>⟨hx,fun h1=>hf.to_ p hpn x hx h1⟩) (h.dij.take h0 hp1 hm);refine ⟨hdj.done (fun q d ⟨s,h1,h2,h3,h4⟩=>.inr ⟨s,h1,h2,h3,h4⟩),hfl,fun q hq=>?_,Qsw (D:=D) (by omega) _ _ (fun x hx=>(hf.bd p hpn x hx).2) (fun q e hq=>?_),fun k hk=>?_,by rw [Yq];exact h.ld,by rw [Qkg];exact h.lr⟩;{(have:q≠p:=by omega);simp [this,h.dlt q hq]};{by_cases e1:q=p;{simp [e1] at hq};{simp [e1] at hq;exact h.bd q e hq}};{obtain ⟨h1,h2,h3⟩:=Qpd (dn:=dn.set p true) (c:=c) k (L p) (row,fun q=>if q=p then none else hp q) (by rw [h.lr];exact hk);refine (h.best k hk).next hno h1 (fun d ⟨s,h4,h5,h6⟩=>?_) (h3.elim .inl (fun ⟨s,h4,h5,h6⟩=>.inr ⟨_,⟨s,h4,h5,rfl⟩,h6⟩));subst h6;exact h2 s h4 h5}
theorem LeI.done {L:Nat→List Stp}{n outs start:Nat}{M D B:Int}{dnf hp:Nat→Option Int}{dn:List Bool}{row:List Int}(h:LeI L n outs start B dnf hp dn row)(hf:Qoi L n outs D) (he:∀ p,n≤p→L p=[])
 (hM:∀ p c,Rch (StF L) start p c→∃ e,Rch (StF L) start p e∧e≤M) (hB:M+D<1152921504606846976) (hn:∀ q,hp q=none):∀ k,k<outs→Lst (Qok (StF L) (OuF L) start k) (row.getD k 0):=fun k hk =>
 OutB.least h.dij (fun p q d hs=>(StF.bd hf he hs).1) hn (h.best k hk) (fun p c d h1 h2=>by
  have h3:=h.dij.bd hM h1;have h4:=OuF.bd hf he h2;unfold INF;omega)
end Go.Proofs.YtdheeddnkdhfeaaGreatDoor
namespace Go.Proofs.YtdheeddnkdhfeaaGreatDoor
open Go.RowKit Go.Proofs.Tryz
theorem Qoe {P:List Int→Prop} (h0:P []) (hs:∀ l x,P l→P (l ++[x])) (l:List Int):P l:=by
 have h:∀ l:List Int,P l.reverse:=by
  intro l
  induction l with
  | nil=>exact h0
  | cons x l ih=>rw [List.reverse_cons];exact hs _ _ ih
 have:=h l.reverse;rwa [List.reverse_reverse] at this
def Qar (l:List Int):Int:=l.foldl (fun n x=>max n (x+1)) 0
theorem Qib (l:List Int)(x:Int):Qar (l ++[x])=max (Qar l) (x+1):=by simp [Qar]
theorem Qce:∀ l:List Int,0≤Qar l:=by refine Qoe (by simp [Qar]) (fun l x ih=>by rw [Qib];omega)
theorem Qti {l:List Int}{x:Int}:x∈l→x<Qar l:=by
 revert x
 refine Qoe (P:=fun l=>∀ {x:Int},x∈l→x<Qar l) (fun h=>by cases h) (fun l y ih=>?_) l;{intro x h;rw [Qib];(rcases List.mem_append.1 h with h|h);{have:=ih h;omega};{rw [List.mem_singleton.1 h];omega}}
theorem Qyh {l:List Int}:0<Qar l→∃ x∈l,Qar l=x+1:=by refine Qoe (P:=fun l=>0<Qar l→∃ x∈l,Qar l=x+1) (fun h=>by simp [Qar] at h) (fun l y ih=>?_) l;{intro h;rw [Qib] at h ⊢;by_cases h1:Qar l≤y+1;{exact ⟨y,by simp,by omega⟩};{have h0:=Qce l;obtain ⟨x,hx,e⟩:=ih (by omega);exact ⟨x,List.mem_append_left _ hx,by omega⟩}}
theorem Qcg {l:List Int}{n:Int}(h:∀ x∈l,x<n)(hn:0≤n):Qar l≤n:=by
 by_cases h0:0<Qar l
 {obtain ⟨x,hx,e⟩:=Qyh h0;have:=h x hx;omega};{omega}
structure Qgg (n:Nat) (l:List Int):Prop where
 len:l.length=n
 lo:∀ x∈l,0≤x
 hi:∀ x∈l,x<n
 all:∀ c:Nat,(c:Int)<Qar l→(c:Int)∈l
def Qdr (p l:List Int):Prop:=∀ (a b:Nat) (x y u v:Int),p[a]?=some x→p[b]?=some y→l[a]?=some u→l[b]?=some v→x≤y→u≤v
structure Qat (n:Nat) (ls:List (List Int)):Prop where
 l1:1≤ls.length
 l6:ls.length≤6
 lvl:∀ l∈ls,Qgg n l
 nest:∀ (i:Nat) p l,ls[i]?=some p→ls[i+1]?=some l→Qdr p l
noncomputable def Qfe (n:Nat) (p:Option (List Int)) (l:List Int):Int:=by classical exact if l.length≠n then 1 else if Qgg n l∧∀ q,p=some q→Qdr q l then 0 else 10
attribute [local go_sem ↓] Go.wp_at_zero Go.wp_at_succ
theorem Qiq (Q:Option Addr)(L cq i:Nat) (ls:List (List Int)) (l:List Int) (w:World) (h:RdT w Q L ls) (hl:ls[i]?=some l) (hL:L≤1000000) :
 Calls prog 193 #[.agg #[.slice Q L cq],.int .i64 ((i:Int)+1)] w fun e w'=>∃ A n c,e=.returned (.slice A n c)∧RdI w A n l∧n≤c∧c≤9223372036854775807∧Below w.heap.size w w':=by
 have hi:i<L:=by rw [←h.1];exact (Zs hl).1
 obtain ⟨b,o,A,n,c,l',rfl,hl',hc,hr,q1,q2⟩:=h.at_ hi;rw [hl] at hl';cases hl';have HR:=Zh hr;have i1:0≤(i:Int):=by omega
 have i2:(i:Int)<L:=by omega
 have i3:¬((i:Int)+1<1):=by omega
 have i4:¬((i:Int)+1 > L):=by omega
 have i5:(i:Int)+1-1=i:=by omega
 have hca:=fun ob=>Zc (show Below w.heap.size w (w.alloc ob) from Qah) (Zn _) hc
 clear h hl hr hc;go_enter func193,ntmps193
 go_wp2;go_ret;exact ⟨_,_,_,rfl,HR.out,q1,q2,Qah⟩
theorem row_ok (Q:Option Addr)(L cq i:Nat) (ls:List (List Int)) (l:List Int) (w:World) (h:RdT w Q L ls) (hl:ls[i]?=some l) (hL:L≤1000000) :
 Calls prog 194 #[.agg #[.slice Q L cq],.int .i64 ((i:Int)+1)] w fun e w'=>∃ A n c,e=.returned (.slice A n c)∧RdI w A n l∧n≤c∧c≤9223372036854775807∧Below w.heap.size w w':=by
 have hi:i<L:=by rw [←h.1];exact (Zs hl).1
 obtain ⟨b,o,A,n,c,l',rfl,hl',hc,hr,q1,q2⟩:=h.at_ hi;rw [hl] at hl';cases hl';have HR:=Zh hr;have i1:0≤(i:Int):=by omega
 have i2:(i:Int)<L:=by omega
 have i3:¬((i:Int)+1<1):=by omega
 have i4:¬((i:Int)+1 > L):=by omega
 have i5:(i:Int)+1-1=i:=by omega
 have hca:=fun ob=>Zc (show Below w.heap.size w (w.alloc ob) from Qah) (Zn _) hc
 clear h hl hr hc;go_enter func194,ntmps194
 go_wp2;go_ret;exact ⟨_,_,_,rfl,HR.out,q1,q2,Qah⟩
theorem Qgw {l:List Int}{k:Nat}{x:Int} (h:l[k]?=some x):Qar (l.take (k+1))=max (Qar (l.take k)) (x+1):=by rw [Yf (Zs h).1,(Zs h).2,Qib]
set_option maxHeartbeats 1000000 in
theorem count_ok (Q:Option Addr)(L cq i:Nat) (ls:List (List Int)) (l:List Int) (w:World) (h:RdT w Q L ls) (hl:ls[i]?=some l) (hL:L≤1000000) (hb:∀ x∈l,0≤x∧x≤1000000) :
 Calls prog 183 #[.agg #[.slice Q L cq],.int .i64 ((i:Int)+1)] w fun e w'=>e=.returned (.int .i64 (Qar l))∧Below w.heap.size w w':=by
 have HN:=Zh (show ∀ V,Below w.heap.size w V→Calls prog 193 #[.agg #[.slice Q L cq],.int .i64 ((i:Int)+1)] V fun e w'=>∃ A n c,e=.returned (.slice A n c)∧RdI V A n l∧n≤c∧c≤9223372036854775807∧Below V.heap.size V w' from fun V hV=>Qiq Q L cq i ls l V (h.below hV) hl hL);have HB:=Zh hb;clear h hl hb;go_enter func183,ntmps183
 go_wp2_with fail
 (refine Qac ?_;intro w1 hw1);have hb1:Below w.heap.size w w1:=by rw [hw1];exact Qah
 clear hw1;with_reducible refine (HN.out w1 hb1).mono ?_
 rintro e w2 ⟨A,n,c,rfl,hr,q1,q2,hb2⟩;have hr2:=hr.below hb2;have HLEN:=Zh hr.1;have hbw2:=Zb hb1 hb2;clear hr;go_wp2_with fail
 go_loop [5,12] (fun m q=>∃ k:Nat,k≤n∧q=.int .i64 k∧m=.int .i64 (Qar (l.take k))) (fun _ q=>n-(intOf q).toNat)
 case atStart=>exact ⟨0,Nat.zero_le _,rfl,rfl⟩
 case round =>
  obtain ⟨k,hk,rfl,rfl⟩:=hrel;by_cases hlt:k<n
  {obtain ⟨b,o,x,rfl,hx,hc⟩:=hr2.at_ hlt;(have hxb:=HB.out x (Zm hx);have HNX:=Zh (Qgw hx);have i1:0≤(k:Int):=by omega);(have i2:(k:Int)<n:=by omega);clear hx;generalize Qar (l.take k)=m at *;by_cases hge:x ≥ m;{(go_wp2_with fail);(go_round);(case rel=>exact ⟨k+1,by omega,by go_num,by rw [HNX.out,show max m (x+1)=x+1 by omega]⟩);case measure=>simp [intOf];omega};{(go_wp2_with fail);(go_round);(case rel=>exact ⟨k+1,by omega,by go_num,by rw [HNX.out,show max m (x+1)=m by omega]⟩);case measure=>simp [intOf];omega}};{(obtain rfl:n=k:=by omega);have HE:=Zh (show Qar (l.take n)=Qar l by rw [Ye (by rw [HLEN.out];exact Zn _)]);go_wp2;go_ret;exact ⟨Qcc HE.out,hbw2⟩}
/-! Rows of Qcf, each of the call's own, as the cells of one block. -/
def IkG (t:TypeId)(W:World)(B g n:Nat) (ls:List (List Int)):Prop :=
 ls.length=n∧g<B∧∃ cs,Blk W g t cs∧cs.size=n∧(∀ (v:Nat) (l:List Int),ls[v]?=some l→∃ A c,cs[v]?=some (.slice A l.length c)∧Own W B 3 1 A l.length c (Qag l)) ∧
  ∀ (v v':Nat) A m c A' m' c',v≠v'→cs[v]?=some (.slice A m c)→cs[v']?=some (.slice A' m' c')→Dj A A'
theorem IkG.start {t:TypeId}{W:World}{B g n:Nat}(hg:g<B) (h:Blk W g t (Qbs (.slice none 0 0) n)):IkG t W B g n (List.replicate n []):=by exact Kaq
theorem IkG.below {t:TypeId}{W W':World}{B g n:Nat} {ls:List (List Int)} (h:IkG t W B g n ls) (hb:Below W.heap.size W W'):IkG t W' B g n ls:=by exact Kbc
theorem IkG.row {t:TypeId}{W:World}{B g n u:Nat} {ls:List (List Int)} (h:IkG t W B g n ls) (hu:u<n):∃ A c l,ls[u]?=some l∧W.cell? ⟨g,u,none⟩=some (.slice A l.length c)∧W.frozen? ⟨g,u,none⟩=false∧Own W B 3 1 A l.length c (Qag l):=by exact Kba
theorem IkG.lt {t:TypeId}{W:World}{B g n:Nat} {ls:List (List Int)} (h:IkG t W B g n ls):g<W.heap.size:=by obtain ⟨_,_,cs,h3,_⟩:=h;exact h3.lt
theorem IkG.push {t:TypeId}{W w':World}{B g n u c c':Nat}{A A':Option Addr} {ls:List (List Int)} {l:List Int} {k:Int} (h:IkG t W B g n ls) (hl:ls[u]?=some l) (hc:W.cell? ⟨g,u,none⟩=some (.slice A l.length c))
 (hown:Own w' B 3 1 A' (l.length+1) c' (Qag l ++Qag [k])) (hg:W.grownBy w' (Qab A)) (hat:Qab A'=Qab A∨Qab A'=some W.heap.size) :
 IkG t (w'.setCell ⟨g,u,none⟩ (.slice A' (l.length+1) c')) B g n (ls.set u (l ++[k])):=by
 obtain ⟨h1,h2,cs,h3,h4,h5,h6⟩:=h;have hu:=(Zs hl).1;have hcs:cs[u]?=some (.slice A l.length c):=by rw [←h3.cell];exact hc
 exact Kag
theorem IkG.cellG {t:TypeId}{W w':World}{B g n u:Nat}{r:Option Nat} {ls:List (List Int)} (h:IkG t W B g n ls) (hu:u<n) (hg:W.grownBy w' r) (hr:r≠some g):∃ v,w'.cell? ⟨g,u,none⟩=some v∧w'.frozen? ⟨g,u,none⟩=false:=by exact Kce
/-! Arcs of a row that are marked. -/
def Qii (P:Tri→Bool)(l:List Tri):List Int:=(l.zipIdx.filter (fun p=>P p.1)).map (fun p=>(p.2:Int))
theorem Qwi (P:Tri→Bool)(l:List Tri)(a:Tri):Qii P (l ++[a])=Qii P l ++(if P a then [(l.length:Int)] else []):=by
 unfold Qii;rw [List.zipIdx_append,List.filter_append,List.map_append];congr 1
 cases h:P a <;> simp [h]
theorem Qjy {P:Tri→Bool}{l:List Tri}{a:Tri}{k:Nat} (h:l[k]?=some a):Qii P (l.take (k+1))=Qii P (l.take k) ++(if P a then [(k:Int)] else []):=by have hlt:=(Zs h).1;rw [Yf hlt,(Zs h).2,Qwi,Yw,Nat.min_eq_left (by omega)]
theorem Qfv (P:Tri→Bool)(l:List Tri):(Qii P l).length≤l.length:=by unfold Qii;rw [List.length_map];refine Yx (List.length_filter_le _ _) ?_;simp
theorem Qtn {P:Tri→Bool}{l:List Tri}{x:Int}:x∈Qii P l↔∃ (i:Nat) (a:Tri),x=(i:Int)∧l[i]?=some a∧P a=true:=by unfold Qii;simp only [List.mem_map,List.mem_filter];exact Kbo
theorem Qjx (P:Tri→Bool):∀ l:List Tri,(Qii P l).Pairwise (·<·):=by intro l;unfold Qii;rw [List.pairwise_map];refine List.Pairwise.filter _ ?_;rw [List.pairwise_iff_getElem];intro i j hi hj hij;simp;exact hij
def Qaa (l:List Int)(v:Int):Int:=l.getD v.toNat 0
theorem Qba {l:List Int}{v:Nat}{p:Int} (h:l[v]?=some p):Qaa l (v:Int)=p:=by unfold Qaa;rw [Yl,Ya,h];rfl
def Qcn (l:List Int)(a:Tri):Bool:=Qaa l a.1 != Qaa l a.2.1
def Qas (ar:List Tri)(l:List Int):List Int:=Qii (Qcn l) ar
def toC (ar:List Tri)(l:List Int)(a:Int):Int:=Qaa l (ar.getD a.toNat (0,0,0)).2.1
def frC (ar:List Tri)(l:List Int)(a:Int):Int:=Qaa l (ar.getD a.toNat (0,0,0)).1
theorem Qof {ar:List Tri}{l:List Int}{a:Nat}{x:Tri} (h:ar[a]?=some x):toC ar l (a:Int)=Qaa l x.2.1:=by unfold toC;rw [Yl,Ya,h];rfl
theorem Qnj {ar:List Tri}{l:List Int}{a:Nat}{x:Tri} (h:ar[a]?=some x):frC ar l (a:Int)=Qaa l x.1:=by unfold frC;rw [Yl,Ya,h];rfl
def Qdy (t f:Int→Int)(X:List Int)(n:Nat):List (List Int):=(List.range (n*2)).map (fun i:Nat=>if i % 2=0 then X.filter (fun a=>t a == ((i / 2:Nat):Int)) else X.filter (fun a=>f a == ((i / 2:Nat):Int)))
theorem Qgl (t f:Int→Int)(X:List Int)(n:Nat):(Qdy t f X n).length=n*2:=by simp [Qdy]
theorem Qjl {t f:Int→Int}{X:List Int}{n c:Nat}(h:c<n):(Qdy t f X n)[c*2]?=some (X.filter (fun a=>t a == (c:Int))):=by unfold Qdy;rw [Yt,List.getElem?_range (by omega)];simp
theorem Qhv {t f:Int→Int}{X:List Int}{n c:Nat}(h:c<n):(Qdy t f X n)[c*2+1]?=some (X.filter (fun a=>f a == (c:Int))):=by unfold Qdy;rw [Yt,List.getElem?_range (by omega),Option.map_some,if_neg (by omega),show (c*2+1) / 2=c by omega]
theorem Qpf (t f:Int→Int)(n:Nat):Qdy t f [] n=List.replicate (n*2) []:=by
 apply List.ext_getElem?;intro i;rcases Nat.lt_or_ge i (n*2) with h|h
 {unfold Qdy;rw [Yt,List.getElem?_range h];simp [h]};{rw [Yd (by rw [Qgl];exact h),Yd (by simpa using h)]}
theorem Qmg {t f:Int→Int}{X:List Int}{n p q:Nat}{a:Int} (hp:t a=(p:Int)) (hq:f a=(q:Int)) (h1:p<n) (h2:q<n) :
 ((Qdy t f X n).set (p*2) (X.filter (fun a=>t a == (p:Int)) ++[a])).set (q*2+1) (X.filter (fun a=>f a == (q:Int)) ++[a])=Qdy t f (X ++[a]) n:=by
 apply List.ext_getElem?;intro i;rcases Nat.lt_or_ge i (n*2) with hi|hi
 {have hl:∀ Y,(Qdy t f Y n)[i]?=some (if i % 2=0 then Y.filter (fun a=>t a == ((i / 2:Nat):Int)) else Y.filter (fun a=>f a == ((i / 2:Nat):Int))):=fun Y=>by{unfold Qdy;rw [Yt,List.getElem?_range hi];rfl};by_cases e1:q*2+1=i;{subst e1;rw [Yg (by rw [Yq,Qgl];exact hi),Qhv h2,List.filter_append];simp [hq]};{rw [Yh e1];by_cases e2:p*2=i;{subst e2;rw [Yg (by rw [Qgl];exact hi),Qjl h1,List.filter_append];simp [hp]};{rw [Yh e2,hl,hl];(congr 1);(rcases Nat.mod_two_eq_zero_or_one i with h0|h0);{rw [if_pos h0,if_pos h0,List.filter_append];simp [hp];omega};{rw [if_neg (by omega),if_neg (by omega),List.filter_append];simp [hq];omega}}}};{rw [Yd (by rw [Yq,Yq,Qgl];exact hi),Yd (by rw [Qgl];exact hi)]}
abbrev Qan:=List Int×List Int
def RdC (w:World)(A:Option Addr)(n:Nat)(row:List Qan):Prop :=
 row.length=n∧∀ c x,row[c]?=some x→∃ b o A1 n1 c1 A2 n2 c2,A=some ⟨b,o,none⟩∧w.cell? ⟨b,o+c*2,none⟩=some (.slice A1 n1 c1)∧RdI w A1 n1 x.1∧w.cell? ⟨b,o+c*2+1,none⟩=some (.slice A2 n2 c2)∧RdI w A2 n2 x.2∧(n1≤c1∧c1≤9223372036854775807)∧n2≤c2∧c2≤9223372036854775807
theorem RdC.le {w w':World}{A:Option Addr}{n:Nat}{row:List Qan}(h:RdC w A n row)(hl:Le w w'):RdC w' A n row :=
 ⟨h.1,fun c x hx=>by
  obtain ⟨b,o,A1,n1,c1,A2,n2,c2,e,h1,h2,h3,h4,h5⟩:=h.2 c x hx;exact ⟨b,o,A1,n1,c1,A2,n2,c2,e,hl _ _ h1,h2.le hl,hl _ _ h3,h4.le hl,h5⟩⟩
theorem RdC.at_ {w:World}{A:Option Addr}{n c:Nat}{row:List Qan}(h:RdC w A n row)(hc:c<n):∃ x b o A1 n1 c1 A2 n2 c2,row[c]?=some x∧A=some ⟨b,o,none⟩∧w.cell? ⟨b,o+c*2,none⟩=some (.slice A1 n1 c1)∧RdI w A1 n1 x.1∧w.cell? ⟨b,o+c*2+1,none⟩=some (.slice A2 n2 c2)∧RdI w A2 n2 x.2∧(n1≤c1∧c1≤9223372036854775807)∧n2≤c2∧c2≤9223372036854775807:=by
 have hl:c<row.length:=by rw [h.1];exact hc
 obtain ⟨b,o,A1,n1,c1,A2,n2,c2,h1⟩:=h.2 c _ (Zg hl);exact ⟨_,b,o,A1,n1,c1,A2,n2,c2,Zg hl,h1⟩
def RdG (w:World)(A:Option Addr)(n:Nat) (gs:List (List Qan)):Prop :=
 gs.length=n∧∀ i row,gs[i]?=some row→∃ b o A' n' c',A=some ⟨b,o,none⟩∧w.cell? ⟨b,o+i,none⟩=some (.slice A' n' c')∧RdC w A' n' row∧n'≤c'∧c'≤9223372036854775807
theorem RdG.le {w w':World}{A:Option Addr}{n:Nat} {gs:List (List Qan)} (h:RdG w A n gs) (hl:Le w w'):RdG w' A n gs :=
 ⟨h.1,fun i row hx=>by
  obtain ⟨b,o,A',n',c',e,h1,h2,h3⟩:=h.2 i row hx;exact ⟨b,o,A',n',c',e,hl _ _ h1,h2.le hl,h3⟩⟩
theorem RdG.at_ {w:World}{A:Option Addr}{n i:Nat} {gs:List (List Qan)} (h:RdG w A n gs) (hi:i<n):∃ row b o A' n' c',gs[i]?=some row∧A=some ⟨b,o,none⟩∧w.cell? ⟨b,o+i,none⟩=some (.slice A' n' c')∧RdC w A' n' row∧n'≤c'∧c'≤9223372036854775807:=by
 have hl:i<gs.length:=by rw [h.1];exact hi
 obtain ⟨b,o,A',n',c',h1⟩:=h.2 i _ (Zg hl);exact ⟨_,b,o,A',n',c',Zg hl,h1⟩
def Qaf (ar:List Tri)(l:List Int):List Qan:=(List.range (Qar l).toNat).map (fun c:Nat=>((Qas ar l).filter (fun a=>toC ar l a == (c:Int)),(Qas ar l).filter (fun a=>frC ar l a == (c:Int))))
theorem Qaq (ar:List Tri)(l:List Int):(Qaf ar l).length=(Qar l).toNat:=by simp [Qaf]
theorem Qco {ar:List Tri}{l:List Int}{c:Nat} (h:c<(Qar l).toNat):(Qaf ar l)[c]?=some ((Qas ar l).filter (fun a=>toC ar l a == (c:Int)),(Qas ar l).filter (fun a=>frC ar l a == (c:Int))):=by unfold Qaf;rw [Yt,List.getElem?_range h];rfl
def Qae (ar:List Tri) (ls:List (List Int)):List (List Qan):=ls.map (Qaf ar)
set_option maxHeartbeats 1000000 in
theorem Qvn (g a:Nat)(N:Qam)(A:Option Addr)(n c u v:Nat)(z p q:Int)(l:List Int)(w:World)(h:Qfh w g N)(hr:RdI w A n l) (hx:N.ar[a]?=some ((u:Int),(v:Int),z)) (hu:u<n) (hv:v<n) (hp:l[u]?=some p) (hq:l[v]?=some q) :
 Calls prog 195 #[.pointer (some ⟨g,0,none⟩),.slice A n c,.int .i64 a] w fun e w'=>e=.returned (.tuple #[.int .i64 p,.int .i64 q,.bool true])∧∃ k,w'=w.drewN k:=by
 have HF:=Zh (Qgs g a N _ w h hx);have HT:=Zh (Qfj g a N _ w h hx);obtain ⟨b,o,p',rfl,hp',cp⟩:=hr.at_ hu;rw [hp] at hp';cases hp';obtain ⟨b',o',q',e,hq',cq⟩:=hr.at_ hv;rw [hq] at hq';cases hq';cases e;have i1:0≤(u:Int):=by omega
 have i2:(u:Int)<n:=by omega
 have i3:0≤(v:Int):=by omega
 have i4:(v:Int)<n:=by omega
 clear h hr hx hp hq;go_enter func195,ntmps195
 go_wp2_with fail
 with_reducible refine HF.out.mono ?_
 rintro e w' ⟨rfl,rfl⟩;go_wp2_with fail
 with_reducible refine HT.out.mono ?_
 rintro e w' ⟨rfl,rfl⟩;go_wp2_with fail
 go_quiet (fail)
 go_wp2_with fail
 go_ret3
 exact ⟨rfl,_,rfl⟩
set_option maxHeartbeats 1000000 in
theorem cross_ok (g:Nat)(N:Qam)(Q:Option Addr)(L cq i n:Nat) (ls:List (List Int)) (l:List Int) (w:World) (h:Qfh w g N) (hN:Qap N) (hq:RdT w Q L ls) (hl:ls[i]?=some l) (hL:L≤1000000) (hlo:Qgg n l) (hn:N.vs.length=n) :
 Calls prog 184 #[.pointer (some ⟨g,0,none⟩),.agg #[.slice Q L cq],.int .i64 ((i:Int)+1)] w fun e w'=>∃ A c,e=.returned (.slice A (Qas N.ar l).length c)∧RdI w' A (Qas N.ar l).length (Qas N.ar l)∧(∀ b,Qab A=some b→w.heap.size≤b∧b<w'.heap.size)∧Below w.heap.size w w':=by
 have HG:=Zh h;have HN:=Zh hN;have hn4:n≤4096:=by rw [←hn];exact hN.lv
 have hm:N.ar.length≤16384:=hN.la;have HR:=Zh (show ∀ V,Below w.heap.size w V→Calls prog 194 #[.agg #[.slice Q L cq],.int .i64 ((i:Int)+1)] V fun e w'=>∃ A n c,e=.returned (.slice A n c)∧RdI V A n l∧n≤c∧c≤9223372036854775807∧Below V.heap.size V w' from fun V hV=>row_ok Q L cq i ls l V (hq.below hV) hl hL);have HLO:=Zh hlo;have HVN:=Zh hn;clear h hN hq hl hlo hn;go_enter func184,ntmps184
 go_wp2_with fail
 (refine Qac ?_;intro w1 hw1);have hb1:Below w.heap.size w w1:=by rw [hw1];exact Qah
 clear hw1;with_reducible refine (HR.out w1 hb1).mono ?_
 rintro e w2 ⟨A,n',c,rfl,hr,q1,q2,hb2⟩;obtain rfl:n=n':=by rw [←hr.1];exact HLO.out.len.symm
 have hr2:=hr.below hb2;have hbw2:=Zb hb1 hb2;have hz0:=hbw2.size;clear hr hb2 hb1;go_wp2_with fail
 with_reducible refine (Qgk g N w2 (HG.out.below hbw2)).mono ?_
 rintro e w' ⟨rfl,rfl⟩;go_wp2_with fail
 generalize hM:N.ar.length=M at *;have HM:=Zh hM;clear hM;go_loopw [8,18] (fun x q W=>Below w.heap.size w W∧w2.heap.size≤W.heap.size∧Below w2.heap.size w2 W∧∃ (j:Nat) (X:Option Addr) (k cx:Nat),j≤M∧q=.int .i64 j∧x=.slice X k cx∧k≤j∧Own W w2.heap.size 3 1 X k cx (Qag (Qii (Qcn l) (N.ar.take j)))) (fun _ q _=>M-(intOf q).toNat)
 case atStart=>exact ⟨hbw2,Zn _,Zr _ _,0,none,0,0,Nat.zero_le _,rfl,rfl,Zn _,Own.nil _ _ _ _⟩
 case round =>
  clear hbw2;obtain ⟨hbl,hsz,hb2r,j,X,k,cx,hj,rfl,rfl,hkj,hown⟩:=hrel;by_cases hlt:j<M
  {obtain ⟨⟨fx,tx,zx⟩,hx⟩:∃ x,N.ar[j]?=some x:=⟨_,Zg (by rw [HM.out];exact hlt)⟩;(have hok:=HN.out.arcs _ (Zm hx);have f0:=hok.f0;have f1:=hok.f1;have g0:=hok.g0;have g1:=hok.g1;simp only at f0 f1 g0 g1;rw [HVN.out] at f1 g1;obtain ⟨u,rfl⟩:∃ u:Nat,fx=u:=⟨fx.toNat,by omega⟩;obtain ⟨v,rfl⟩:∃ v:Nat,tx=v:=⟨tx.toNat,by omega⟩;have hu:u<n:=by omega);(have hv:v<n:=by omega);(obtain ⟨p,hp⟩:∃ p,l[u]?=some p:=⟨_,Zg (by rw [HLO.out.len];exact hu)⟩;obtain ⟨q,hq⟩:∃ q,l[v]?=some q:=⟨_,Zg (by rw [HLO.out.len];exact hv)⟩;have HE:=Zh (Qvn g j N A n c u v zx p q l wr (HG.out.below hbl) (hr2.below hb2r) hx hu hv hp hq);have HNX:=Zh (Qjy (P:=Qcn l) hx);have hcb:Qcn l ((u:Int),(v:Int),zx)=(p != q):=by unfold Qcn;simp only;rw [Qba hp,Qba hq]);rw [hcb] at HNX;clear hx hok hcb hp hq;(go_wp2_with fail);(with_reducible refine HE.out.mono ?_);(rintro e w4 ⟨rfl,nq,hw4⟩;have hbl4:Below w.heap.size w w4:=by rw [hw4];exact Qay hbl _);(have hb24:Below w2.heap.size w2 w4:=by rw [hw4];exact Qay hb2r _);(have hsz4:w2.heap.size≤w4.heap.size:=by rw [hw4];exact hsz);(have hown4:Own w4 w2.heap.size 3 1 X k cx (Qag (Qii (Qcn l) (N.ar.take j))):=by rw [hw4];exact hown);clear hw4 hbl hb2r hsz hown HE;by_cases hpq:p=q;{(have e1:(p != q)=false:=by simpa using hpq);(have e2:(p == q)=true:=by simpa using hpq);rw [e1] at HNX;clear hpq;(go_wp2_with fail);go_roundw;(case rel=>exact ⟨hbl4,hsz4,hb24,j+1,X,k,cx,by omega,by go_num,rfl,by omega,by rw [HNX.out];simpa using hown4⟩);case measure=>simp [intOf];omega};{(have e1:(p != q)=true:=by simpa using hpq);(have e2:(p == q)=false:=by simpa using hpq);rw [e1] at HNX;clear hpq;have hlt4:Below w4.heap.size w4 (w4.alloc (.cells #[.int .i64 (j:Int)] 3)):=Qah;have hownA:=hown4.below hlt4;have hrA:Rds (w4.alloc (.cells #[.int .i64 (j:Int)] 3)) 1 (some ⟨w4.heap.size,0,none⟩) 1 (Qag [(j:Int)]):=(Blk.new w4 3 (Qcf [(j:Int)])).rds rfl;have hblA:=Zb hbl4 hlt4;have hb2A:=Zb hb24 hlt4;(go_wp2_with (at_builtin;with_reducible refine Qal rfl (.tmp 35) (.tmp 37) 61 rfl 3 _ 1 8 Qbo underlying61 rfl (by omega) rfl rfl hownA hrA (Qao _) (by omega) (by omega) (by simp;omega) ?_));intro A' c' w' hown' hg _;have hbl5:Below w.heap.size w w':=Zo hblA hg (hownA.mono (by omega)) (by simp;omega);have hb25:Below w2.heap.size w2 w':=Zo hb2A hg hownA (by simp;omega);have hsz5:w2.heap.size≤w'.heap.size:=hb25.size;have HO:=Zh hown';clear hown' hg hownA hrA hblA hb2A hlt4 hown4 hbl4 hb24 hsz4;go_wp2;go_roundw;(case rel=>exact ⟨hbl5,hsz5,hb25,j+1,A',k+1,c',by omega,by go_num,rfl,by omega,by rw [HNX.out,if_pos trivial,Qbg];exact HO.out⟩);case measure=>simp [intOf];omega}};{(obtain rfl:M=j:=by omega);(rw [Ye (by rw [HM.out];exact Zn _)] at hown;have HO:=Zh hown;have hk:k=(Qas N.ar l).length:=by have:=hown.1;rw [Nat.mul_one] at this;rw [←this];simp [Qag,Qas]);have HK:=Zh hk;clear hown hk;go_wp2;go_ret;exact ⟨X,cx,by rw [←HK.out];rfl,by rw [←HK.out];exact HO.out.rds.rdI,fun b hb=>by have:=HO.out.lt b hb;omega,hbl⟩}
def plI (l:List Int)(v:Int):Int:=match l.findIdx? (· == v) with|some i=>(i:Int)|none=>-1
theorem Qnt {l:List Int}{v:Int}{k:Nat} (h:l[k]?=some v) (hj:∀ j x,j<k→l[j]?=some x→x≠v):plI l v=k:=by unfold plI;have hk:=(Zs h).1;have:l.findIdx? (· == v)=some k:=by{rw [List.findIdx?_eq_some_iff_getElem];refine ⟨hk,by simpa using (Zs h).2,fun j hjk=>?_⟩;simpa using hj j _ hjk (Zg (by omega))};rw [this]
theorem Qcr {l:List Int}{v:Int}(h:v ∉ l):plI l v = -1:=by
 unfold plI
 have:l.findIdx? (· == v)=none:=by
  rw [List.findIdx?_eq_none_iff];intro x hx;have:x≠v:=fun e=>h (e▸hx)
  simpa using this
 rw [this]
theorem Qgn {l:List Int}{v:Int}(h:v∈l):∃ k:Nat,plI l v=k∧l[k]?=some v:=by
 obtain ⟨k,hk⟩:=Yr h;unfold plI
 cases e:l.findIdx? (· == v) with
 | none =>rw [List.findIdx?_eq_none_iff] at e;have:=e v h;simp at this
 | some i =>rw [List.findIdx?_eq_some_iff_getElem] at e;obtain ⟨hi,h1,_⟩:=e;refine ⟨i,rfl,?_⟩;rw [Zg hi];simpa using h1
theorem plI_nn {l:List Int}{v:Int}:0≤plI l v↔v∈l:=by constructor;{intro h;by_cases hm:v∈l;{exact hm};{rw [Qcr hm] at h;omega}};{intro h;obtain ⟨k,e,_⟩:=Qgn h;omega}
set_option maxHeartbeats 400000 in
theorem Qxn (A:Option Addr)(n c:Nat)(l:List Int)(v:Int)(w:World)(h:RdI w A n l)(hn:n≤1000000000) :
 Calls prog 198 #[.slice A n c,.int .i64 v] w fun e w'=>e=.returned (.int .i64 (plI l v))∧w=w':=by
 have HR:=Zh h;have HL:=Zh h.1;clear h;go_enter func198,ntmps198
 go_wp2_with fail
 go_loop [8] (fun q=>∃ k:Nat,k≤n∧q=.int .i64 k∧∀ j x,j<k→l[j]?=some x→x≠v) (fun q=>n-(intOf q).toNat)
 case atStart=>exact ⟨0,Nat.zero_le _,rfl,fun _ _ h=>absurd h (Nat.not_lt_zero _)⟩
 case round =>exact Kah
theorem Qox (A:Option Addr)(n c:Nat)(l:List Int)(v:Int)(w:World)(h:RdI w A n l)(hn:n≤1000000000) :
 Calls prog 190 #[.slice A n c,.int .i64 v] w fun e w'=>e=.returned (.bool (decide (v∈l)))∧w=w':=by
 have HI:=Zh (Qxn A n c l v w h hn);have HD:=Zh (show decide ((0:Int)≤plI l v)=decide (v∈l) by simp [plI_nn]);clear h;go_enter func190,ntmps190
 go_wp2_with fail
 with_reducible refine HI.out.mono ?_
 rintro e w' ⟨rfl,rfl⟩;generalize plI l v=p at *;go_wp2_with fail
 go_ret;exact ⟨Qbh (by rw [←HD.out]),rfl⟩
theorem less_any (a b:Int)(w:World):Calls prog 161 #[.int .i64 a,.int .i64 b] w fun e w'=>e=.returned (.bool (decide (a<b)))∧w=w':=by
 go_enter func161,ntmps161
 go_wp2;go_ret;exact ⟨Qbh (by simp),rfl⟩
def Qit (l:List Int):Bool:=decide (l.Pairwise (·≤·))
theorem Qmu {l:List Int} (h:∀ (j:Nat) (x y:Int),l[j]?=some x→l[j+1]?=some y→x≤y):Qit l=true:=by
 unfold Qit;rw [decide_eq_true_eq,List.pairwise_iff_getElem];intro i j hi hj hij;obtain ⟨d,rfl⟩:∃ d,j=i+1+d:=⟨j-i-1,by omega⟩;clear hij
 induction d with
 | zero=>exact h i _ _ (Zg hi) (Zg hj)
 | succ d ih =>have:=ih (by omega);have:=h (i+1+d) _ _ (Zg (by omega)) (Zg hj);omega
theorem Qsg {l:List Int}{j:Nat}{x y:Int} (h1:l[j]?=some x) (h2:l[j+1]?=some y) (h:y<x):Qit l=false:=by unfold Qit;rw [decide_eq_false_iff_not,List.pairwise_iff_getElem];intro hp;have:=hp j (j+1) (Zs h1).1 (Zs h2).1 (by omega);rw [(Zs h1).2,(Zs h2).2] at this;omega
set_option maxHeartbeats 1000000 in
theorem Qpl (A:Option Addr)(n c:Nat)(l:List Int)(w:World)(h:RdI w A n l)(hn:n≤1000000000) :
 Calls prog 191 #[.slice A n c] w fun e w'=>e=.returned (.bool (Qit l))∧∃ k,w'=w.drewN k:=by
 have HR:=Zh h;have HL:=Zh h.1;clear h;go_enter func191,ntmps191
 go_wp2_with fail
 go_loopw [3] (fun q W=>(∃ d,W=w.drewN d)∧∃ k:Int,-1≤k∧k<n∧q=.int .i64 k∧∀ (j:Nat) x y,k≤j→l[j]?=some x→l[j+1]?=some y→x≤y) (fun q _=>(intOf q).toNat)
 case atStart =>refine ⟨⟨0,rfl⟩,(n:Int)-1,by omega,by omega,rfl,fun j x y hj _ hy=>?_⟩;have:=(Zs hy).1;rw [HL.out] at this;omega
 case round =>
  obtain ⟨hd,k,hk,hkn,rfl,hj⟩:=hrel;have HW:=Zh hd;have HJ:=Zh hj;clear hj;by_cases hlt:0<k
  {obtain ⟨m,rfl⟩:∃ m:Nat,k=(m:Int)+1:=⟨(k-1).toNat,by omega⟩;obtain ⟨b,o,x,rfl,hx,hc⟩:=HR.out.at_ (show m<n by omega);obtain ⟨b',o',y,e,hy,hc'⟩:=HR.out.at_ (show m+1<n by omega);cases e;(have hc1:wr.cell? ⟨b,o+m,none⟩=some (.int .i64 x):=by obtain ⟨d,rfl⟩:=hd;exact hc);(have hc2:wr.cell? ⟨b,o+(m+1),none⟩=some (.int .i64 y):=by obtain ⟨d,rfl⟩:=hd;exact hc');(have HLS:=Zh (fun V=>less_any y x V);have i1:0≤(m:Int):=by omega);(have i2:(m:Int)<n:=by omega);(have i3:(m:Int)+1<n:=by omega);(have i4:0≤(m:Int)+1:=by omega);(have i5:(m:Int)+1-1=m:=by omega);(have i6:((m:Int)+1).toNat=m+1:=by omega);have HX:=Zh hx;have HY:=Zh hy;clear hx hy hc hc' hd;(by_cases hyx:y<x);{(have e1:decide (y<x)=true:=by simpa using hyx);have HS:=Zh (Qsg HX.out HY.out hyx);(go_wp2_with fail);(go_quiet ((go_at_call 161;exact Qgy (HLS.out _))));(go_wp2_with fail);go_ret;refine ⟨Qbh HS.out.symm,?_⟩;obtain ⟨d,e⟩:=HW.out;exact ⟨d+nq,by rw [e,World.drewN_drewN]⟩};{(have e1:decide (y<x)=false:=by simpa using hyx);have HS:=Zh hyx;(go_wp2_with fail);(go_quiet ((go_at_call 161;exact Qgy (HLS.out _))));(go_wp2_with fail);go_roundw;(case rel =>obtain ⟨d,e⟩:=HW.out;refine ⟨⟨d+nq,by rw [e,World.drewN_drewN]⟩,(m:Int),by omega,by omega,by first|rfl|go_num,fun j x' y' hj h1 h2=>?_⟩;by_cases ej:j=m;{subst ej;rw [HX.out] at h1;rw [HY.out] at h2;cases h1;cases h2;have:=HS.out;omega};{exact HJ.out j x' y' (by omega) h1 h2});case measure=>simp [intOf]}};{have HS:=Zh (Qmu (l:=l) (fun j x y h1 h2=>HJ.out j x y (by omega) h1 h2));(go_wp2_with fail);go_ret;exact ⟨Qbh HS.out.symm,HW.out⟩}
def Qqk (l:List Int)(n:Nat):List Int:=(List.range n).map (fun c:Nat=>((l.countP (fun x=>x == (c:Int)):Nat):Int))
theorem Qgq (l:List Int)(n:Nat):(Qqk l n).length=n:=by simp [Qqk]
theorem Qeu {l:List Int}{n v:Nat}(h:v<n):(Qqk l n)[v]?=some ((l.countP (fun x=>x == (v:Int)):Nat):Int):=by unfold Qqk;rw [Yt,List.getElem?_range h];rfl
theorem Qow (n:Nat):Qcf (Qqk [] n)=Qbs (.int .i64 0) n:=by
 rw [Qcd];congr 1
 apply List.ext_getElem?;intro i;rcases Nat.lt_or_ge i n with h|h
 {rw [Qeu h];simp [h]};{rw [Yd (by rw [Qgq];exact h),Yd (by simpa using h)]}
theorem Qov {l:List Int}{n v k:Nat} (ha:l[k]?=some (v:Int)) (h:v<n) :
 (Qqk (l.take k) n).set v ((((l.take k).countP (fun x=>x == (v:Int)):Nat):Int)+1)=Qqk (l.take (k+1)) n:=by
 apply List.ext_getElem?;intro i;rw [Yf (Zs ha).1,(Zs ha).2];rcases Nat.lt_or_ge i n with hi|hi
 {rw [Qeu hi,List.countP_append];by_cases e:v=i;{subst e;rw [Yg (by rw [Qgq];exact h)];simp};{rw [Yh e,Qeu hi];(have:((v:Int) == (i:Int))=false:=by simp;omega);simp [this]}};{rw [Yd (by rw [Yq,Qgq];exact hi),Yd (by rw [Qgq];exact hi)]}
theorem Qwx (l:List Int)(k:Nat)(v:Int):(l.take k).countP (fun x=>x == v)≤k:=Yx List.countP_le_length (List.length_take_le _ _)
theorem Qwy (l:List Int){n m:Nat}(h:m≤n):(Qqk l n).take m=Qqk l m:=by apply List.ext_getElem?;intro i;rw [List.getElem?_take];split;{rename_i hi;rw [Qeu (by omega),Qeu hi]};{rw [Yd (by rw [Qgq];omega)]}
theorem cntI_pos {n:Nat}{l:List Int}(h:Qgg n l):(0:Int) ∉ Qqk l (Qar l).toNat:=by intro hm;unfold Qqk at hm;rw [List.mem_map] at hm;obtain ⟨c,hc,e⟩:=hm;rw [List.mem_range] at hc;have hc2:=h.all c (by omega);have:=List.countP_pos_iff (p:=fun x=>x == (c:Int)).2 ⟨(c:Int),hc2,by simp⟩;omega
set_option maxHeartbeats 1000000 in
theorem tally_ok (A:Option Addr)(n c:Nat)(l:List Int)(w:World)(h:RdI w A n l)(hl:Qgg n l)(hn:n≤1000000) :
 Calls prog 179 #[.slice A n c] w fun e w'=>∃ g,e=.returned (.tuple #[.slice (some ⟨g,0,none⟩) (Qar l).toNat n,.bool true])∧RdI w' (some ⟨g,0,none⟩) (Qar l).toNat (Qqk l (Qar l).toNat)∧Below w.heap.size w w':=by
 have HR:=Zh h;have HL:=Zh h.1;have HO:=Zh hl;have hmk:=Qdg n (by omega);clear h hl;go_enter func179,ntmps179
 go_wp2_with fail
 (refine Qaj ?_;intro w1 hw1);have hb1:Below w.heap.size w w1:=by rw [hw1];exact Qah
 have hB1:Blk w1 w.heap.size 3 (Qcf (Qqk (l.take 0) n)):=by rw [hw1,List.take_zero,Qow];exact Blk.new _ _ _
 clear hw1 hmk;go_loopw [6,15] (fun m q W=>Below w.heap.size w W∧∃ k:Nat,k≤n∧q=.int .i64 k∧m=.int .i64 (Qar (l.take k)-1)∧Blk W w.heap.size 3 (Qcf (Qqk (l.take k) n))) (fun _ q _=>n-(intOf q).toNat)
 case atStart=>exact ⟨hb1,0,Nat.zero_le _,rfl,rfl,hB1⟩
 case round =>
  clear hb1 hB1;obtain ⟨hbl,k,hk,rfl,rfl,hB⟩:=hrel;by_cases hlt:k<n
  {obtain ⟨b,o,x,rfl,hx,hc⟩:=HR.out.at_ hlt;(have x0:=HO.out.lo x (Zm hx);have x1:=HO.out.hi x (Zm hx);obtain ⟨v,rfl⟩:∃ v:Nat,x=v:=⟨x.toNat,by omega⟩;have hv:v<n:=by omega);(have hc2:=Zc hbl (Zn _) hc;have HNX:=Zh (Qgw hx);have c1:=hB.cellI (Qeu (l:=l.take k) hv);have c1f:=hB.frozen v;have d1:=Qwx l k (v:Int);have m0:=Qce (l.take k);have m1:=Qcg (l:=l.take k) (n:=(n:Int)) (fun x hx=>HO.out.hi x (List.mem_of_mem_take hx)) (by omega);have HBN:=Zh (hB.setI (Qov hx hv));have i1:0≤(k:Int):=by omega);(have i2:(k:Int)<n:=by omega);(have i3:0≤(v:Int):=by omega);(have i4:(v:Int)<n:=by omega);clear hx hc hB;generalize (l.take k).countP (fun x=>x == (v:Int))=p at *;generalize Qar (l.take k)=m at *;have hbn:Below w.heap.size w (wr.setCell ⟨w.heap.size,v,none⟩ (.int .i64 ((p:Int)+1))):=hbl.setCell (Zn _) _;have HM:=Zh (show (if m-1<(v:Int) then (v:Int) else m-1)=max m ((v:Int)+1)-1∧max (m-1) (v:Int)=max m ((v:Int)+1)-1 by constructor <;> (try split) <;> omega);(go_wp2_with fail);go_roundw;(case rel=>exact ⟨hbn,k+1,by omega,by go_num,by rw [HNX.out];first|rw [HM.out.1]|rw [HM.out.2],HBN.out⟩);case measure=>simp [intOf];omega};{(obtain rfl:n=k:=by omega);rw [Ye (by rw [HL.out];exact Zn _)] at hB;have HE:=Zh (show Qar (l.take n)=Qar l by rw [Ye (by rw [HL.out];exact Zn _)]);have m0:=Qce l;have m1:=Qcg (l:=l) (n:=(n:Int)) (fun x hx=>HO.out.hi x hx) (by omega);have HP:=Zh (cntI_pos HO.out);have hrd:=(hB.rdI (n:=n) (Qgq l n)).take (m:=(Qar l).toNat) (by omega);rw [Qwy l (by omega)] at hrd;rw [HE.out];obtain ⟨M,hM⟩:∃ M:Nat,Qar l=M:=⟨(Qar l).toNat,by omega⟩;rw [hM] at m0 m1 ⊢;have HMM:=Zh hM;rw [hM,Yl] at hrd HP;have HCT:=Zh (show Calls prog 190 #[.slice (some ⟨w.heap.size,0,none⟩) M n,.int .i64 0] wr fun e w'=>e=.returned (.bool false)∧wr=w' from (Qox _ M n _ 0 wr hrd (by omega)).mono (fun e w' h=>⟨by rw [h.1,decide_eq_false HP.out],h.2⟩));(have HRD:=Zh hrd;clear hM hrd hB;have i1:(M:Int)-1+1=M:=by omega);(go_wp2_with fail);(with_reducible refine HCT.out.mono ?_);rintro e w' ⟨rfl,rfl⟩;(go_wp2_with fail);(go_ret2);exact ⟨w.heap.size,by rw [HMM.out,Yl];rfl,by rw [HMM.out,Yl];exact HRD.out,hbl⟩}
structure UpI (p l U:List Int) (k:Nat):Prop where
 len:U.length=p.length
 put:∀ (v c:Nat) (y:Int),v<k→p[v]?=some (c:Int)→l[v]?=some y→U[c]?=some y
 got:∀ (c:Nat) (y:Int),U[c]?=some y→y = -1∨∃ v,v<k∧p[v]?=some (c:Int)∧l[v]?=some y
theorem UpI.start (p l:List Int):UpI p l (List.replicate p.length (-1)) 0 :=
 ⟨by simp,fun v _ _ h=>absurd h (Nat.not_lt_zero _),fun c y h=>.inl (by
  have:=Zm h;exact (List.mem_replicate.1 this).2)⟩
theorem UpI.next {p l U:List Int}{k c:Nat}{y:Int}(h:UpI p l U k)(hn:Qdr p l) (hp:p[k]?=some (c:Int)) (hl:l[k]?=some y) (hc:c<p.length):UpI p l (U.set c y) (k+1):=by refine ⟨by rw [Yq];exact h.len,fun v d z hv h1 h2=>?_,fun d z hz=>?_⟩;{by_cases e:c=d;{subst e;rw [Yg (by rw [h.len];exact hc)];have q1:=hn v k _ _ _ _ h1 hp h2 hl (Int.le_refl _);have q2:=hn k v _ _ _ _ hp h1 hl h2 (Int.le_refl _);(congr 1);omega};{rw [Yh e];by_cases ev:v=k;{subst ev;rw [hp] at h1;(injection h1 with h1);omega};{exact h.put v d z (by omega) h1 h2}}};{by_cases e:c=d;{subst e;rw [Yg (by rw [h.len];exact hc)] at hz;cases hz;exact .inr ⟨k,by omega,hp,hl⟩};{rw [Yh e] at hz;(rcases h.got d z hz with h1|⟨v,h1,h2⟩);{exact .inl h1};{exact .inr ⟨v,by omega,h2⟩}}}
theorem UpI.eq {p l U:List Int}{k c:Nat}{y z:Int}(h:UpI p l U k)(hn:Qdr p l) (hp:p[k]?=some (c:Int)) (hl:l[k]?=some y) (hz:U[c]?=some z):z = -1∨z=y:=by
 rcases h.got c z hz with h1|⟨v,h1,h2,h3⟩
 {exact .inl h1};{have q1:=hn v k _ _ _ _ h2 hp h3 hl (Int.le_refl _);have q2:=hn k v _ _ _ _ hp h2 hl h3 (Int.le_refl _);exact .inr (by omega)}
theorem UpI.sorted {p l U:List Int}{n:Nat}(h:UpI p l U n)(hn:Qdr p l)(hp:Qgg n p)(hl:l.length=n):Qit (U.take (Qar p).toNat)=true:=by
 refine Qmu (fun j x y h1 h2=>?_);rw [List.getElem?_take] at h1 h2;split at h1
 {rename_i q1;(split at h2);{rename_i q2;obtain ⟨a,ha⟩:=Yr (hp.all j (by omega));obtain ⟨b,hb⟩:=Yr (hp.all (j+1) (by omega));have la:=(Zs ha).1;have lb:=(Zs hb).1;rw [hp.len] at la lb;have ea:l[a]?=some l[a]:=Zg (by omega);have eb:l[b]?=some l[b]:=Zg (by omega);have p1:=h.put a j _ la ha ea;have p2:=h.put b (j+1) _ lb hb eb;rw [p1] at h1;rw [p2] at h2;cases h1;cases h2;exact hn a b _ _ _ _ ha hb ea eb (by omega)};{cases h2}};{cases h1}
theorem Qyf {n k:Nat}(h:k<n):(List.replicate k (-1:Int) ++List.replicate (n-k) 0).set k (-1)=List.replicate (k+1) (-1) ++List.replicate (n-(k+1)) 0:=by rw [List.set_append_right _ _ (by simp)];obtain ⟨m,hm⟩:∃ m,n-k=m+1:=⟨n-k-1,by omega⟩;rw [hm,show n-(k+1)=m by omega,List.replicate_succ' (n:=k)];simp [List.replicate_succ]
set_option maxHeartbeats 2000000 in
theorem Qyk (A B:Option Addr)(n c d:Nat)(p l:List Int)(w:World)(h:RdI w A n p)(h2:RdI w B n l)(hp:Qgg n p)(hl:Qgg n l)(hN:Qdr p l)(hn:n≤1000000) :
 Calls prog 180 #[.slice A n c,.slice B n d] w fun e w'=>e=.returned (.bool true)∧Below w.heap.size w w':=by
 have HR:=Zh h;have HR2:=Zh h2;have HL:=Zh h.1;have HO:=Zh hp;have HO2:=Zh hl;have HN:=Zh hN;have hmk:=Qdg n (by omega);clear h h2 hl hp hN;go_enter func180,ntmps180
 go_wp2_with fail
 (refine Qaj ?_;intro w1 hw1);have hb1:Below w.heap.size w w1:=by rw [hw1];exact Qah
 have hB1:Blk w1 w.heap.size 3 (Qcf (List.replicate 0 (-1) ++List.replicate (n-0) 0)):=by rw [hw1];simp only [List.replicate_zero,List.nil_append,Nat.sub_zero];rw [←Qcd];exact Blk.new _ _ _
 clear hw1 hmk;go_loopw [15] (fun q W=>Below w.heap.size w W∧∃ k:Nat,k≤n∧q=.int .i64 k∧Blk W w.heap.size 3 (Qcf (List.replicate k (-1) ++List.replicate (n-k) 0))) (fun q _=>n-(intOf q).toNat)
 case atStart=>exact ⟨hb1,0,Nat.zero_le _,rfl,hB1⟩
 case round =>
  clear hb1 hB1;obtain ⟨hbl,k,hk,rfl,hB⟩:=hrel;by_cases hlt:k<n
  {obtain ⟨z,hz⟩:∃ z,(List.replicate k (-1:Int) ++List.replicate (n-k) 0)[k]?=some z:=⟨_,Zg (by simp;omega)⟩;(have c1:=hB.cellI hz;have c1f:=hB.frozen k;have HB:=Zh (hB.setI (Qyf hlt));have hbn:Below w.heap.size w (wr.setCell ⟨w.heap.size,k,none⟩ (.int .i64 (-1))):=hbl.setCell (Zn _) _;have i1:0≤(k:Int):=by omega);(have i2:(k:Int)<n:=by omega);clear hB hz hbl;(go_wp2_with fail);go_roundw;(case rel=>exact ⟨hbn,k+1,by omega,by go_num,HB.out⟩);case measure=>simp [intOf];omega};{(obtain rfl:n=k:=by omega);rw [Yy,List.replicate_zero,List.append_nil] at hB;have HU:=Zh (show UpI p l (List.replicate n (-1)) 0 from by have:=UpI.start p l;rw [HL.out] at this;exact this);(go_wp2_with fail);(go_loopw [7,24] (fun m q W=>Below w.heap.size w W∧∃ (k:Nat) (U:List Int),k≤n∧q=.int .i64 k∧m=.int .i64 (Qar (p.take k)-1)∧Blk W w.heap.size 3 (Qcf U)∧UpI p l U k) (fun _ q _=>n-(intOf q).toNat));(case atStart=>exact ⟨hbl,0,_,Nat.zero_le _,rfl,rfl,hB,HU.out⟩);case round =>clear hbl hB HU;obtain ⟨hbl,k,U,hk,rfl,rfl,hB,hU⟩:=hrel;have HU:=Zh hU;(by_cases hlt2:k<n);{obtain ⟨b,o,x,rfl,hx,hc⟩:=HR.out.at_ hlt2;(obtain ⟨b2,o2,y,rfl,hy,hcy⟩:=HR2.out.at_ hlt2;have x0:=HO.out.lo x (Zm hx);have x1:=HO.out.hi x (Zm hx);have y0:=HO2.out.lo y (Zm hy);obtain ⟨v,rfl⟩:∃ v:Nat,x=v:=⟨x.toNat,by omega⟩;have hv:v<n:=by omega);(have hc2:=Zc hbl (Zn _) hc;have hcy2:=Zc hbl (Zn _) hcy;have HNX:=Zh (Qgw hx);obtain ⟨z,hz⟩:∃ z,U[v]?=some z:=⟨_,Zg (by rw [hU.len,HL.out];exact hv)⟩;have hzz:=hU.eq HN.out hx hy hz;have c1:=hB.cellI hz;have c1f:=hB.frozen v;have m0:=Qce (p.take k);have m1:=Qcg (l:=p.take k) (n:=(n:Int)) (fun x hx=>HO.out.hi x (List.mem_of_mem_take hx)) (by omega);have HBN:=Zh (hB.setI (l':=U.set v y) rfl);have HUN:=Zh (hU.next HN.out hx hy (by rw [HL.out];exact hv));have i1:0≤(k:Int):=by omega);(have i2:(k:Int)<n:=by omega);(have i3:0≤(v:Int):=by omega);(have i4:(v:Int)<n:=by omega);have hbn:Below w.heap.size w (wr.setCell ⟨w.heap.size,v,none⟩ (.int .i64 y)):=hbl.setCell (Zn _) _;clear hx hy hc hcy hB hU hz HU hbl;generalize Qar (p.take k)=m at *;have HM:=Zh (show (if m-1<(v:Int) then (v:Int) else m-1)=max m ((v:Int)+1)-1∧max (m-1) (v:Int)=max m ((v:Int)+1)-1 by constructor <;> (try split) <;> omega);by_cases hz0:z ≥ 0;{(obtain rfl:z=y:=by omega);clear hzz;exact Kbk};{(obtain rfl:z = -1:=by omega);clear hzz hz0;exact Kbk}};{(obtain rfl:n=k:=by omega);have HE:=Zh (show Qar (p.take n)=Qar p by rw [Ye (by rw [HL.out];exact Zn _)]);have m0:=Qce p;have m1:=Qcg (l:=p) (n:=(n:Int)) (fun x hx=>HO.out.hi x hx) (by omega);have HS:=Zh (hU.sorted HN.out HO.out HO2.out.len);have hrd:=(hB.rdI (n:=n) (by rw [hU.len];exact HL.out)).take (m:=(Qar p).toNat) (by omega);rw [HE.out];obtain ⟨M,hM⟩:∃ M:Nat,Qar p=M:=⟨(Qar p).toNat,by omega⟩;rw [hM] at m0 m1 ⊢;rw [hM,Yl] at hrd HS;have HCT:=Zh (show Calls prog 191 #[.slice (some ⟨w.heap.size,0,none⟩) M n] wr fun e w'=>e=.returned (.bool true)∧∃ k,w'=wr.drewN k from (Qpl _ M n _ wr hrd (by omega)).mono (fun e w' h=>⟨by rw [h.1,HS.out],h.2⟩));(have i1:(M:Int)-1+1=M:=by omega);clear hM hrd hB hU HE HU;(go_wp2_with fail);(with_reducible refine HCT.out.mono ?_);(rintro e w' ⟨rfl,nq,hw'⟩;have hbe:Below w.heap.size w w':=by rw [hw'];exact Qay hbl _);clear hw';(go_wp2_with fail);go_ret;exact ⟨rfl,hbe⟩}}
set_option maxHeartbeats 2000000 in
set_option maxRecDepth 20000 in
theorem Qiz (Q:Option Addr)(n L cq:Nat) (ls:List (List Int)) (w:World) (h:RdT w Q L ls) (hP:Qat n ls) (hn:n≤4096) :
 Calls prog 140 #[.int .i64 n,.agg #[.slice Q L cq],.slice none 0 0] w fun e w'=>e=.returned .nilIface∧Below w.heap.size w w':=by
 have HT:=Zh h;have HP:=Zh hP;have l1:1≤L:=by rw [←h.1];exact hP.l1
 have l6:L≤6:=by rw [←h.1];exact hP.l6
 have HLEN:=Zh h.1;clear h hP;have j1:((L:Int) == 0)=false:=by simp;omega
 have j2:¬(n:Int)<0:=by omega
 have j3:¬(n:Int) > 4096:=by omega
 have j4:¬(L:Int) > 6:=by omega
 have j5:¬L=0:=by omega
 go_enter func140,ntmps140
 go_wp2_with fail
 (refine Qaj ?_;intro w1 hw1);have hb1:Below w.heap.size w w1:=by rw [hw1];exact Qah
 have hQ:Blk w1 w.heap.size 132 #[.slice Q L cq]:=by rw [hw1];exact Qbi
 have hBd:Blk w1 (w.heap.size+1) 61 #[.slice none 0 0]:=by rw [hw1];exact Qbi
 clear hw1;go_loopw [45] (fun q W=>Below w.heap.size w W∧Blk W w.heap.size 132 #[.slice Q L cq]∧Blk W (w.heap.size+1) 61 #[.slice none 0 0]∧∃ i:Nat,i≤L∧q=.int .i64 i) (fun q _=>L-(intOf q).toNat)
 case atStart=>exact ⟨hb1,hQ,hBd,0,Nat.zero_le _,rfl⟩
 case round =>
  clear hb1 hQ hBd;obtain ⟨hbl,hQ,hBd,i,hi,rfl⟩:=hrel;by_cases hlt:i<L
  {obtain ⟨b,o,A,m,c,l,rfl,hl,hc,hr,q1,q2⟩:=HT.out.at_ hlt;(have hlo:=HP.out.lvl l (Zm hl);obtain rfl:m=n:=by rw [←hr.1];exact hlo.len);have hcc:=Zc hbl (Zn _) hc;have HTL:=Zh (show ∀ V,Below w.heap.size w V→Calls prog 179 #[.slice A m c] V fun e w'=>∃ g,e=.returned (.tuple #[.slice (some ⟨g,0,none⟩) (Qar l).toNat m,.bool true])∧Below V.heap.size V w' from fun V hV=>(tally_ok A m c l V (hr.below hV) hlo (by omega)).mono (fun e w' ⟨g,h1,_,h3⟩=>⟨g,h1,h3⟩));(have HR:=Zh hr;have HLO:=Zh hlo;have HLL:=Zh hl;have i1:0≤(i:Int):=by omega);(have i2:(i:Int)<L:=by omega);clear hr hlo hl hc q1;by_cases hi0:i=0;{(have e0:¬((i:Int) > 0):=by omega);(have e00:¬(0<i):=by omega);clear hi0;(go_wp2_with fail);(refine Qac ?_;intro w2 hw2);(have hb2:Below wr.heap.size wr w2:=by rw [hw2];exact Qah);(have hX:Blk w2 wr.heap.size 3 #[.int .i64 (i:Int)]:=by rw [hw2];exact Qbi);(clear hw2;have hbl2:=Zb hbl hb2;with_reducible refine (HTL.out w2 hbl2).mono ?_);rintro e w3 ⟨g,rfl,hb3⟩;have hX3:=(hX.below hb3 hX.lt).cell 0;have hQ3:=(hQ.below hb2 hQ.lt).below hb3 (hQ.below hb2 hQ.lt).lt;have hB3:=(hBd.below hb2 hBd.lt).below hb3 (hBd.below hb2 hBd.lt).lt;have z1:=hQ3.lt;have z2:=hB3.lt;have y1:=hQ3.cell 0;have y2:=hB3.cell 0;simp only [Yo,Yn] at hX3 y1 y2;have hbl3:=Zb hbl2 hb3;clear hX hQ hBd hcc hb2 hb3;(go_wp2_with fail);go_roundw;(case rel=>exact ⟨hbl3,hQ3,hB3,i+1,by omega,by go_num⟩);case measure=>simp [intOf];omega};{obtain ⟨j,rfl⟩:∃ j,i=j+1:=⟨i-1,by omega⟩;obtain ⟨b',o',A',m',c',l',e,hl',hc',hr',q1',q2'⟩:=HT.out.at_ (show j<L by omega);cases e;(have hlo':=HP.out.lvl l' (Zm hl');obtain rfl:m'=m:=by rw [←hr'.1];exact hlo'.len);have hne:=HP.out.nest j l' l hl' HLL.out;have HNS:=Zh (show ∀ V,Below w.heap.size w V→Calls prog 180 #[.slice A' m' c',.slice A m' c] V fun e w'=>e=.returned (.bool true)∧Below V.heap.size V w' from fun V hV=>Qyk A' A m' c' c l' l V (hr'.below hV) (HR.out.below hV) hlo' HLO.out hne (by omega));(have hcc':=Zc hbl (Zn _) hc';have i3:((j:Int)+1)-1=(j:Int):=by omega);(have i4:0≤(j:Int):=by omega);(have i5:(j:Int)<L:=by omega);clear hr' hlo' hl' hc' q1' hne hi0;(go_wp2_with fail);(refine Qac ?_;intro w2 hw2);(have hb2:Below wr.heap.size wr w2:=by rw [hw2];exact Qah);(have hX:Blk w2 wr.heap.size 3 #[.int .i64 ((j:Int)+1)]:=by rw [hw2];exact Qbi);(clear hw2;have hbl2:=Zb hbl hb2;with_reducible refine (HTL.out w2 hbl2).mono ?_);rintro e w3 ⟨g,rfl,hb3⟩;have hbX3:=hX.below hb3 hX.lt;have hX3:=hbX3.cell 0;have hQ3:=(hQ.below hb2 hQ.lt).below hb3 (hQ.below hb2 hQ.lt).lt;have hB3:=(hBd.below hb2 hBd.lt).below hb3 (hBd.below hb2 hBd.lt).lt;have y1:=hQ3.cell 0;simp only [Yo,Yn] at hX3 y1;have hbl3:=Zb hbl2 hb3;have d1:=Zc hb3 (Zn _) (Zc hb2 (Zn _) hcc);have d2:=Zc hb3 (Zn _) (Zc hb2 (Zn _) hcc');clear hX hQ hBd hcc hb2 hb3 hcc';(go_wp2_with fail);(with_reducible refine (HNS.out w3 hbl3).mono ?_);rintro e w4 ⟨rfl,hb4⟩;have hX4:=(hbX3.below hb4 hbX3.lt).cell 0;have hQ4:=hQ3.below hb4 hQ3.lt;have hB4:=hB3.below hb4 hB3.lt;have y2:=hB4.cell 0;simp only [Yo,Yn] at hX4 y2;have hbl4:=Zb hbl3 hb4;clear d1 d2 hX3 y1 hbX3 hQ3 hB3 hb4;(go_wp2_with fail);go_roundw;(case rel=>exact ⟨hbl4,hQ4,hB4,j+1+1,by omega,by go_num⟩);case measure=>simp [intOf];omega}};{(obtain rfl:L=i:=by omega);(go_wp2_with fail);go_ret;exact ⟨rfl,hbl⟩}
end Go.Proofs.YtdheeddnkdhfeaaGreatDoor
