/- Parts of the proof: InP, InB, Dk, InQ, LeP, Gs, Ki, Ko, Dn, En, BaP, BkP. -/
import Derived.Test.YtdheeddnkdhfeaaGreatDoorJ10
import Derived.Test.YtdheeddnkdhfeaaGreatDoorShelf
import Derived.Test.YtdheeddnkdhfeaaGreatDoorShelf2
import Derived.Sort.OwnSortedInts
import Derived.Lib.RowBridge
namespace Go.Proofs.YtdheeddnkdhfeaaGreatDoor
open Go.RowKit Go.Proofs.Tryz
theorem Qqv.gone {St:Qbz}{s:Nat}{dn hp:Nat→Option Int}{p:Nat}{c:Int}{Gone Gone':Nat→Int→Prop}(h:Qqv St s dn hp p c Gone)(hg:∀ r d,St p r d→Gone' r d→Gone r d):Qqv St s dn hp p c Gone' :=
 ⟨h.dr,h.dm,h.hr,h.off,fun q e r d h1 h2=>by
  rcases h.on q e r d h1 h2 with ⟨h3,h4⟩|h3
  · subst h3;exact .inl ⟨rfl,fun h5=>h4 (hg r d h2 h5)⟩
  · exact .inr h3,h.st,h.at_⟩
def StN (N:Qak)(mk:List Bool)(s na:Nat):Qbz:=fun a b d=>∃ y,N.ar[b]?=some y∧Qaw N (if a=na then s else a) b≠1152921504606846976∧y.2.2≠1152921504606846976 ∧
 mk.getD y.1.toNat false=true∧mk.getD y.2.1.toNat false=true∧d=Qaw N (if a=na then s else a) b+y.2.2
attribute [local go_sem ↓] Go.wp_at_zero Go.wp_at_succ
theorem Qdw {u:Int}(h:wOk u=true):u=1152921504606846976∨(0≤u∧u≤2147483648):=by
 unfold wOk at h;simp only [Bool.or_eq_true,Bool.and_eq_true,decide_eq_true_eq] at h;omega
theorem getD_or (l:List Int)(k:Nat)(d:Int):l.getD k d=d∨l.getD k d∈l:=by
 rcases Nat.lt_or_ge k l.length with h|h
 · exact .inr (Zm (Qbp d h))
 · exact .inl (by rw [Ya,Yd h];rfl)
theorem Qcw {N:Qak}(h:Qas N)(a b:Nat):Qaw N a b=1152921504606846976∨(0≤Qaw N a b∧Qaw N a b≤2147483648):=by
 unfold Qaw
 split
 · split
   · split
     · split
       · rename_i t ht
         rcases getD_or t.costs ((Qgi N.ar a _).1.toNat*t.outs.toNat+(Qgi N.ar b _).2.toNat) 1152921504606846976 with h1|h1
         · exact .inl h1
         · exact Qdw ((h.tabs t (Zm ht)).ok _ h1)
       · exact .inl rfl
     · exact .inl rfl
   · exact .inl rfl
 · exact .inl rfl
end Go.Proofs.YtdheeddnkdhfeaaGreatDoor
namespace Go.Proofs.YtdheeddnkdhfeaaGreatDoor
def Qeu (l:List Int)(c:Int):List Bool:=l.map (fun z=>z == c)
def InK (St:Qbz)(s:Nat)(D:Int)(k q:Nat):Prop:=∃ e,Rch St s q e∧e≤(k:Int)*D
theorem InK.mono {St:Qbz}{s:Nat}{D:Int}(hD:0≤D){k q:Nat}(h:InK St s D k q):InK St s D (k+1) q:=by
 obtain ⟨e,h1,h2⟩:=h;refine ⟨e,h1,?_⟩
 push_cast
 rw [Int.add_mul,Int.one_mul];omega
theorem Qkp {α:Type}{p q:α→Bool}:∀ {l:List α},(∀ x∈l,p x=true→q x=true)→(∃ x∈l,p x=false∧q x=true)→l.countP p<l.countP q
 | [],_,h=>by obtain ⟨x,hx,_⟩:=h;cases hx
 | y::l,h1,h2=>by
  have hle:l.countP p≤l.countP q:=List.countP_mono_left (fun x hx=>h1 x (by simp [hx]))
  by_cases hy:p y=true
  · have hq:=h1 y (by simp) hy
    obtain ⟨x,hx,hp,hx2⟩:=h2
    rcases List.mem_cons.1 hx with rfl|hx
    · rw [hy] at hp;cases hp
    · have:=Qkp (fun z hz=>h1 z (by simp [hz])) ⟨x,hx,hp,hx2⟩
      simp only [List.countP_cons,hy,hq,if_pos];omega
  · have hy':p y=false:=by simpa using hy
    by_cases hq:q y=true
    · simp only [List.countP_cons,hy',hq]
      simp;omega
    · obtain ⟨x,hx,hp,hx2⟩:=h2
      rcases List.mem_cons.1 hx with rfl|hx
      · exact absurd hx2 hq
      · have:=Qkp (fun z hz=>h1 z (by simp [hz])) ⟨x,hx,hp,hx2⟩
        have hq':q y=false:=by simpa using hq
        simp only [List.countP_cons,hy',hq']
        simpa using this
open Classical in
theorem InK.stable (St:Qbz)(s:Nat){D:Int}(hD:0≤D)(n:Nat):∃ k,k≤n∧∀ q,q<n→InK St s D (k+1) q→InK St s D k q:=by
 apply Classical.byContradiction
 intro hno
 have hstep:∀ k,k≤n→(List.range n).countP (fun q=>decide (InK St s D k q))<(List.range n).countP (fun q=>decide (InK St s D (k+1) q)):=fun k hk=>by
  have h1:¬∀ q,q<n→InK St s D (k+1) q→InK St s D k q:=fun h=>hno ⟨k,hk,h⟩
  have ⟨q,h2⟩:=Classical.not_forall.1 h1;have ⟨hq,h3⟩:=Classical.not_imp.1 h2;have ⟨h4,h5⟩:=Classical.not_imp.1 h3;refine Qkp (fun x _ hx=>?_) ⟨q,by simpa using hq,by simpa using h5,by simpa using h4⟩;have:=InK.mono hD (of_decide_eq_true hx)
  simpa using this
 have hall:∀ k,k≤n+1→k≤(List.range n).countP (fun q=>decide (InK St s D k q)):=fun k=>by
  induction k with
  | zero=>intro _;exact Nat.zero_le _
  | succ k ih=>intro hk;have:=ih (by omega);have:=hstep k (by omega);omega
 have h1:=hall (n+1) (Zn _);have h2:=List.countP_le_length (p:=fun q=>decide (InK St s D (n+1) q)) (l:=List.range n);rw [List.length_range] at h2;omega
theorem Rch.bound {St:Qbz}{n:Nat}{D:Int}(hD:0≤D)(hst:∀ p q d,St p q d→q<n∧d≤D){s p:Nat}{c:Int}(h:Rch St s p c):∃ e,Rch St s p e∧e≤(n:Int)*D:=by
 obtain ⟨k,hk,hs⟩:=InK.stable St s hD n
 have hin:InK St s D k p:=by
  induction h with
  | start=>exact ⟨0,.start,Int.mul_nonneg (by omega) hD⟩
  | step h1 h2 ih =>
   obtain ⟨e,h3,h4⟩:=ih;have:=hst _ _ _ h2;refine hs _ this.1 ⟨_,h3.step h2,?_⟩
   push_cast
   rw [Int.add_mul,Int.one_mul];omega
 obtain ⟨e,h1,h2⟩:=hin;exact ⟨e,h1,Int.le_trans h2 (Int.mul_le_mul_of_nonneg_right (by omega) hD)⟩
theorem Dij.bd {St:Qbz}{s:Nat}{dn hp:Nat→Option Int}(h:Dij St s dn hp){M:Int}(hM:∀ p c,Rch St s p c→∃ e,Rch St s p e∧e≤M){p:Nat}{c:Int}(hd:dn p=some c):c≤M:=by
 obtain ⟨e,h1,h2⟩:=hM p c (h.dr p c hd);have:=h.dm p c hd e h1;omega
theorem Dij.bdTake {St:Qbz}{s:Nat}{dn hp:Nat→Option Int}(h:Dij St s dn hp)(h0:∀ p q d,St p q d→0≤d){M:Int}(hM:∀ p c,Rch St s p c→∃ e,Rch St s p e∧e≤M){p:Nat}{c:Int}(hp1:hp p=some c)(hm:∀ q e,hp q=some e→c≤e):c≤M:=by
 obtain ⟨e,h1,h2⟩:=hM p c (h.hr p c hp1);have:=h.least h0 hp1 hm e h1;omega
theorem Dij.init (St:Qbz)(s:Nat){hp:Nat→Option Int}(h:∀ q,hp q=if q=s then some 0 else none):Dij St s (fun _=>none) hp where
 dr:=fun p c h=>by cases h
 dm:=fun p c h=>by cases h
 hr:=fun p c hc=>by
  rw [h] at hc
  by_cases e:p=s
  · subst e;simp at hc;subst hc;exact .start
  · simp [e] at hc
 off:=fun p c h=>by cases h
 on:=fun p c q d h=>by cases h
 st:=.inr ⟨0,by rw [h,if_pos rfl],Int.le_refl _⟩
theorem OutB.next {Out:Qbz}{dn:Nat→Option Int}{k p:Nat}{b b' c:Int} (h:OutB Out dn k b (fun _=>False)) (hp:dn p=none) (hle:b'≤b) (hout:∀ d,Out p k d→b'≤c+d) (hhit:b'=b∨∃ d,Out p k d∧b'=c+d) :
 OutB Out (fun q=>if q=p then some c else dn q) k b' (fun _=>False) where
 lo:=fun q e d hq ho _=>by
  by_cases e1:q=p
  · subst e1;simp at hq;subst hq;exact hout d ho
  · simp [e1] at hq;have:=h.lo q e d hq ho (fun h=>h);omega
 hit:=by
  rcases hhit with e|⟨d,h1,h2⟩
  · subst e
    rcases h.hit with h1|⟨q,x,d,h1,h2,h3⟩
    · exact .inl h1
    · exact .inr ⟨q,x,d,by rw [if_neg (fun e=>by rw [e,hp] at h1;cases h1)];exact h1,h2,h3⟩
  · exact .inr ⟨p,c,d,by simp,h1,h2⟩
end Go.Proofs.YtdheeddnkdhfeaaGreatDoor
namespace Go.Proofs.YtdheeddnkdhfeaaGreatDoor
open Go.RowKit Go.Proofs.Tryz
theorem Qcg {N:Qak}{a b:Nat}(h:Qaw N a b≠1152921504606846976):∃ x y,N.ar[a]?=some x∧N.ar[b]?=some y∧x.2.1=y.1:=by
 unfold Qaw at h
 split at h
 · rename_i x y hx hy
   by_cases e:x.2.1=y.1
   · exact ⟨x,y,hx,hy,e⟩
   · rw [if_neg e] at h;exact absurd rfl h
 · exact absurd rfl h
def StA (N:Qak)(mk:List Bool):Qbz:=fun a b d=>∃ y,N.ar[b]?=some y∧Qaw N a b≠1152921504606846976∧y.2.2≠1152921504606846976 ∧
 mk.getD y.1.toNat false=true∧mk.getD y.2.1.toNat false=true∧d=Qaw N a b+y.2.2
def OuA (N:Qak):Qbz:=fun a t d=>Qaw N a t≠1152921504606846976∧d=Qaw N a t
def Qgx (N:Qak)(mk:List Bool)(s t:Nat)(v:Int):Prop:=Lst (Ras (StA N mk) (OuA N) s t) v
theorem StA.lt {N:Qak}{mk:List Bool}{a b:Nat}{d:Int}(h:StA N mk a b d):b<N.ar.length:=by
 obtain ⟨y,hy,_⟩:=h;exact (Zs hy).1
theorem StN.stA {N:Qak}{mk:List Bool}{s na a b:Nat}{d:Int}(h:StN N mk s na a b d):StA N mk (if a=na then s else a) b d:=h
theorem StA.bd {N:Qak}(hok:Qas N){mk:List Bool}{a b:Nat}{d:Int}(h:StA N mk a b d):0≤d∧d≤4294967296:=by
 obtain ⟨y,hy,h1,h2,_,_,rfl⟩:=h;have h3:=(Qcw hok a b).resolve_left h1;have h4:=(Qdw (hok.arcs y (Zm hy)).w).resolve_left h2;omega
theorem OuA.bd {N:Qak}(hok:Qas N){a t:Nat}{d:Int}(h:OuA N a t d):0≤d∧d≤2147483648:=by
 obtain ⟨h1,rfl⟩:=h;exact (Qcw hok a t).resolve_left h1
def MB:Int:=70373039144960
theorem rchN_bd {N:Qak}(hok:Qas N){mk:List Bool}{s:Nat}(p:Nat)(c:Int) (h:Rch (StN N mk s N.ar.length) N.ar.length p c):∃ e,Rch (StN N mk s N.ar.length) N.ar.length p e∧e≤MB:=by
 obtain ⟨e,h1,h2⟩:=Rch.bound (n:=N.ar.length) (D:=4294967296) (by omega) (fun p q d h=>⟨(StN.stA h).lt,((StN.stA h).bd hok).2⟩) h;refine ⟨e,h1,?_⟩;have:=hok.la;unfold MB;omega
theorem Qje {N:Qak}(hok:Qas N){mk:List Bool}{s:Nat}(p:Nat)(c:Int) (h:Rch (StA N mk) s p c):∃ e,Rch (StA N mk) s p e∧e≤MB:=by
 exact Kci
theorem Qgx.bd {N:Qak}(hok:Qas N){mk:List Bool}{s t:Nat}{v:Int}(h:Qgx N mk s t v):v=1152921504606846976∨(0≤v∧v≤70375186628608):=by
 rcases h with ⟨⟨p,c,d,h1,h2,rfl⟩,hm⟩|⟨h1,_⟩
 · right
   have hc:=h1.pos (fun p q d h=>(h.bd hok).1);have hd:=h2.bd hok;obtain ⟨e,h3,h4⟩:=Qje hok p c h1;have:=hm (e+d) ⟨p,e,d,h3,h2,rfl⟩;unfold MB at h4;omega
 · exact .inl h1
theorem Qrk {bs:List Nat}{l:List Int}(h:nis bs=l)(b:Nat):b∈bs↔(b:Int)∈l:=by
 rw [←h];unfold nis
 constructor
 · intro hb;exact List.mem_map.2 ⟨b,hb,rfl⟩
 · intro hb
   obtain ⟨c,hc,e⟩:=List.mem_map.1 hb;have:c=b:=by omega
   rwa [←this]
theorem outs_mem {N:Qak}{a b:Nat}{x:Tri} (hx:N.ar[a]?=some x) {bs:List Nat} (hbs:nis bs=idx (·.1) N.ar x.2.1) (h:Qaw N a b≠1152921504606846976):b∈bs:=by
 obtain ⟨x',y,h1,h2,h3⟩:=Qcg h;rw [hx] at h1
 cases h1
 exact (Qrk hbs b).2 (Qfm.2 ⟨b,y,rfl,h2,h3.symm⟩)
theorem getD_rep (n q:Nat):(List.replicate n false).getD q false=false:=by
 rw [Ya,List.getElem?_replicate]
 split <;> rfl
end Go.Proofs.YtdheeddnkdhfeaaGreatDoor
namespace Go.Proofs.YtdheeddnkdhfeaaGreatDoor
abbrev Stp:=Nat×Int×Int
def StF (L:Nat→List Stp):Qbz:=fun p q d=>∃ s∈L p,s.2.1<0∧s.1=q∧s.2.2=d
def OuF (L:Nat→List Stp):Qbz:=fun p k d=>∃ s∈L p,s.2.1=(k:Int)∧s.2.2=d
def Qcr (dn:List Bool)(c:Int) (st:List Int×(Nat→Option Int)) (s:Stp):List Int×(Nat→Option Int) :=
 if 0≤s.2.1 then (st.1.set s.2.1.toNat (min (st.1.getD s.2.1.toNat 0) (c+s.2.2)),st.2)
 else (st.1,if dn.getD s.1 false=false then Qix st.2 s.1 (c+s.2.2) else st.2)
structure Qqi (L:Nat→List Stp) (n outs:Nat) (D:Int):Prop where
 to_:∀ p,p<n→∀ s∈L p,s.2.1<0→s.1<n
 out:∀ p,p<n→∀ s∈L p,s.2.1<outs
 bd:∀ p,p<n→∀ s∈L p,0≤s.2.2∧s.2.2≤D
theorem Qtv {L:Nat→List Stp}{n:Nat}{dn:List Bool}{s p:Nat}{dnf:Nat→Option Int}{c:Int} (hdn:∀ q,q<n→(dn.getD q false=true↔dnf q≠none)) :
 ∀ (l:List Stp) (st:List Int×(Nat→Option Int)) (Gone:Nat→Int→Prop),(∀ x∈l,x∈L p∧(x.2.1<0→x.1<n))→Qqv (StF L) s dnf st.2 p c Gone →
  Qqv (StF L) s dnf (l.foldl (Qcr dn c) st).2 p c (fun r e=>Gone r e∨∃ x∈l,x.2.1<0∧x.1=r∧x.2.2=e)
 | [],st,Gone,_,h=>h.gone (fun r d _ hg=>hg.elim id (fun ⟨_,e,_⟩=>by cases e))
 | x::l,(row,hp),Gone,hb,h=>by
  have hx:=hb x (by simp)
  have h1:Qqv (StF L) s dnf (Qcr dn c (row,hp) x).2 p c (fun r e=>Gone r e∨(x.2.1<0∧x.1=r∧x.2.2=e)):=by
   unfold Qcr
   by_cases ho:0≤x.2.1
   · simp only [if_pos ho]
     exact h.gone (fun r d _ hg=>hg.elim id (fun e=>by omega))
   · simp only [if_neg ho]
     have hst:StF L p x.1 x.2.2:=⟨x,hx.1,by omega,rfl,rfl⟩
     by_cases h5:dn.getD x.1 false=true
     · have hne:=(hdn x.1 (hx.2 (by omega))).1 h5
       rw [if_neg (by rw [h5];simp)];exact (h.put hst (.inl ⟨hne,fun e he=>h.dm x.1 e he _ ((h.dr p c h.at_).step hst),rfl⟩)).gone (fun r d _ hg=>hg.elim .inl (fun e=>.inr ⟨e.2.1.symm,e.2.2.symm⟩))
     · have h6:dn.getD x.1 false=false:=by simpa using h5
       rw [if_pos h6]
       have hno:dnf x.1=none:=by
        cases hd:dnf x.1 with
        | none=>rfl
        | some e=>exact absurd ((hdn x.1 (hx.2 (by omega))).2 (by rw [hd];simp)) h5
       refine (h.put (hp':=Qix hp x.1 (c+x.2.2)) hst (.inr ⟨hno,fun r hr=>by unfold Qix;rw [if_neg hr],?_⟩)).gone (fun r d _ hg=>hg.elim .inl (fun e=>.inr ⟨e.2.1.symm,e.2.2.symm⟩));unfold Qix;rw [if_pos rfl]
       dsimp only
       cases hv:hp x.1 with
       | none=>exact .inr ⟨fun e he=>(by cases he),rfl⟩
       | some z =>
        by_cases hz:z≤c+x.2.2
        · exact .inl ⟨z,rfl,hz,by simp [hz]⟩
        · exact .inr ⟨fun e he=>(by cases he;omega),by simp [hz]⟩
  have h2:=Qtv hdn l _ _ (fun q hq=>hb q (by simp [hq])) h1;refine h2.gone (fun r d _ hg=>?_)
  rcases hg with hg|⟨y,hy,hg⟩
  · exact .inl (.inl hg)
  · rcases List.mem_cons.1 hy with e|e
    · subst e;exact .inl (.inr hg)
    · exact .inr ⟨y,e,hg⟩
theorem Qkq {dn:List Bool}{c:Int}:∀ (l:List Stp) (st:List Int×(Nat→Option Int)),(l.foldl (Qcr dn c) st).1.length=st.1.length
 | [],st=>rfl
 | x::l,st=>by
  rw [List.foldl_cons,Qkq l];unfold Qcr
  split <;> simp
theorem Qui {dn:List Bool}{c D B:Int}(hc:c+D≤B):∀ (l:List Stp) (st:List Int×(Nat→Option Int)),(∀ x∈l,x.2.2≤D)→(∀ q e,st.2 q=some e→e≤B) →
 ∀ q e,(l.foldl (Qcr dn c) st).2 q=some e→e≤B
 | [],st,_,h=>h
 | x::l,(row,hp),hb,h=>by
  have hx:=hb x (by simp);refine Qui hc l _ (fun y hy=>hb y (by simp [hy])) ?_;intro q e hq;unfold Qcr at hq
  split at hq
  · exact h q e hq
  · simp only at hq
    split at hq
    · unfold Qix at hq
      by_cases e1:q=x.1
      · rw [if_pos e1] at hq
        split at hq
        · cases hq;omega
        · rename_i z hz
          have:=h x.1 z hz
          split at hq <;> (cases hq;omega)
      · rw [if_neg e1] at hq;exact h q e hq
    · exact h q e hq
theorem Qps {dn:List Bool}{c:Int}(k:Nat):∀ (l:List Stp) (st:List Int×(Nat→Option Int)),k<st.1.length →
 (l.foldl (Qcr dn c) st).1.getD k 0≤st.1.getD k 0∧(∀ x∈l,x.2.1=(k:Int)→(l.foldl (Qcr dn c) st).1.getD k 0≤c+x.2.2) ∧
  ((l.foldl (Qcr dn c) st).1.getD k 0=st.1.getD k 0∨∃ x∈l,x.2.1=(k:Int)∧(l.foldl (Qcr dn c) st).1.getD k 0=c+x.2.2)
 | [],st,_=>⟨Int.le_refl _,fun x hx=>(by cases hx),.inl rfl⟩
 | x::l,st,hk=>by
  have hl:(Qcr dn c st x).1.length=st.1.length:=by unfold Qcr;split <;> simp
  obtain ⟨h1,h2,h3⟩:=Qps k l (Qcr dn c st x) (by rw [hl];exact hk);rw [List.foldl_cons]
  have hs:(Qcr dn c st x).1.getD k 0=if x.2.1=(k:Int) then min (st.1.getD k 0) (c+x.2.2) else st.1.getD k 0:=by
   unfold Qcr
   by_cases ho:0≤x.2.1
   · simp only [if_pos ho]
     by_cases e:x.2.1=(k:Int)
     · rw [if_pos e,e,Yl]
       simp [hk]
     · rw [if_neg e]
       have:¬x.2.1.toNat=k:=by omega
       simp [this]
   · simp only [if_neg ho]
     rw [if_neg (by omega)]
  generalize hz:(Qcr dn c st x).1.getD k 0=z at h1 h3 hs;generalize hy:(l.foldl (Qcr dn c) (Qcr dn c st x)).1.getD k 0=y at h1 h2 h3 ⊢;refine ⟨by split at hs <;> omega,fun u hu e=>?_,?_⟩
  · rcases List.mem_cons.1 hu with rfl|hu
    · rw [if_pos e] at hs;omega
    · exact h2 u hu e
  · rcases h3 with h3|⟨u,hu,h4,h5⟩
    · by_cases e:x.2.1=(k:Int)
      · rw [if_pos e] at hs
        by_cases h6:st.1.getD k 0≤c+x.2.2
        · exact .inl (by omega)
        · exact .inr ⟨x,by simp,e,by omega⟩
      · rw [if_neg e] at hs;exact .inl (by omega)
    · exact .inr ⟨u,by simp [hu],h4,h5⟩
structure LeI (L:Nat→List Stp) (n outs start:Nat) (B:Int) (dnf hp:Nat→Option Int) (dn:List Bool) (row:List Int):Prop where
 dij:Dij (StF L) start dnf hp
 fl:∀ q,q<n→(dn.getD q false=true↔dnf q≠none)
 dlt:∀ q,n≤q→dnf q=none
 bd:∀ q e,hp q=some e→e≤B
 best:∀ k,k<outs→OutB (OuF L) dnf k (row.getD k 0) (fun _=>False)
 ld:dn.length=n
 lr:row.length=outs
theorem LeI.init {L:Nat→List Stp}{n outs start:Nat}{B:Int}{hp:Nat→Option Int}{row:List Int}(hB:0≤B)(h:∀ q,hp q=if q=start then some 0 else none)(hr:row=List.replicate outs 1152921504606846976):LeI L n outs start B (fun _=>none) hp (List.replicate n false) row:=by
 subst hr;refine ⟨Dij.init _ _ h,fun q _=>?_,fun q _=>rfl,fun q e hq=>?_,fun k hk=>⟨fun p c d h=>(by cases h),.inl ?_⟩,by simp,by simp⟩
 · rw [Ya,List.getElem?_replicate]
   split <;> simp
 · rw [h] at hq
   split at hq
   · cases hq;exact hB
   · cases hq
 · rw [Ya,List.getElem?_replicate,if_pos hk]
   rfl
theorem StF.bd {L:Nat→List Stp}{n outs:Nat}{D:Int}(h:Qqi L n outs D) (he:∀ p,n≤p→L p=[]) {p q:Nat} {d:Int} (hs:StF L p q d):0≤d∧d≤D∧p<n∧q<n:=by
 obtain ⟨s,h1,h2,rfl,rfl⟩:=hs
 have hp:p<n:=by
  rcases Nat.lt_or_ge p n with h3|h3
  · exact h3
  · rw [he p h3] at h1;cases h1
 exact ⟨(h.bd p hp s h1).1,(h.bd p hp s h1).2,hp,h.to_ p hp s h1 h2⟩
theorem OuF.bd {L:Nat→List Stp}{n outs:Nat}{D:Int}(h:Qqi L n outs D) (he:∀ p,n≤p→L p=[]) {p k:Nat} {d:Int} (hs:OuF L p k d):0≤d∧d≤D:=by
 obtain ⟨s,h1,h2,rfl⟩:=hs
 have hp:p<n:=by
  rcases Nat.lt_or_ge p n with h3|h3
  · exact h3
  · rw [he p h3] at h1;cases h1
 exact h.bd p hp s h1
theorem LeI.next {L:Nat→List Stp}{n outs start p:Nat}{M D B c:Int}{dnf hp:Nat→Option Int}{dn:List Bool}{row:List Int}(h:LeI L n outs start B dnf hp dn row)(hf:Qqi L n outs D) (he:∀ p,n≤p→L p=[])
 (hM:∀ p c,Rch (StF L) start p c→∃ e,Rch (StF L) start p e∧e≤M) (hB:M+D≤B) (hpn:p<n) (hp1:hp p=some c) (hm:∀ q e,hp q=some e→c≤e) :
 LeI L n outs start B (fun q=>if q=p then some c else dnf q) ((L p).foldl (Qcr (dn.set p true) c) (row,fun q=>if q=p then none else hp q)).2 (dn.set p true) ((L p).foldl (Qcr (dn.set p true) c) (row,fun q=>if q=p then none else hp q)).1:=by
 have h0:∀ p q d,StF L p q d→0≤d:=fun p q d hs=>(StF.bd hf he hs).1
 have hno:dnf p=none:=by
  cases hd:dnf p with
  | none=>rfl
  | some e=>have:=h.dij.off p e hd;rw [hp1] at this;cases this
 have hfl:∀ q,q<n→((dn.set p true).getD q false=true↔(fun q=>if q=p then some c else dnf q) q≠none):=fun q hq=>by
  by_cases e:q=p
  · subst e
    have:q<dn.length:=by rw [h.ld];exact hq
    simp [this]
  · have e':¬p=q:=fun x=>e x.symm
    have:=h.fl q hq
    simpa [List.getElem?_set,e,e'] using this
 have hc:c≤M:=h.dij.bdTake h0 hM hp1 hm;have hdj:=Qtv (L:=L) (n:=n) hfl (L p) (row,fun q=>if q=p then none else hp q) _ (fun x hx=>⟨hx,fun h1=>hf.to_ p hpn x hx h1⟩) (h.dij.take h0 hp1 hm);refine ⟨hdj.done (fun q d ⟨s,h1,h2,h3,h4⟩=>.inr ⟨s,h1,h2,h3,h4⟩),hfl,fun q hq=>?_,Qui (D:=D) (by omega) _ _ (fun x hx=>(hf.bd p hpn x hx).2) (fun q e hq=>?_),fun k hk=>?_,by rw [Yq];exact h.ld,by rw [Qkq];exact h.lr⟩
 · have:q≠p:=by omega
   simp [this,h.dlt q hq]
 · by_cases e1:q=p
   · simp [e1] at hq
   · simp [e1] at hq;exact h.bd q e hq
 · obtain ⟨h1,h2,h3⟩:=Qps (dn:=dn.set p true) (c:=c) k (L p) (row,fun q=>if q=p then none else hp q) (by rw [h.lr];exact hk)
   refine (h.best k hk).next hno h1 (fun d ⟨s,h4,h5,h6⟩=>?_) (h3.elim .inl (fun ⟨s,h4,h5,h6⟩=>.inr ⟨_,⟨s,h4,h5,rfl⟩,h6⟩));subst h6;exact h2 s h4 h5
theorem LeI.done {L:Nat→List Stp}{n outs start:Nat}{M D B:Int}{dnf hp:Nat→Option Int}{dn:List Bool}{row:List Int}(h:LeI L n outs start B dnf hp dn row)(hf:Qqi L n outs D) (he:∀ p,n≤p→L p=[])
 (hM:∀ p c,Rch (StF L) start p c→∃ e,Rch (StF L) start p e∧e≤M) (hB:M+D<1152921504606846976) (hn:∀ q,hp q=none):∀ k,k<outs→Lst (Ras (StF L) (OuF L) start k) (row.getD k 0):=fun k hk =>
 OutB.least h.dij (fun p q d hs=>(StF.bd hf he hs).1) hn (h.best k hk) (fun p c d h1 h2=>by
  have h3:=h.dij.bd hM h1;have h4:=OuF.bd hf he h2;unfold INF;omega)
end Go.Proofs.YtdheeddnkdhfeaaGreatDoor
namespace Go.Proofs.YtdheeddnkdhfeaaGreatDoor
open Go.RowKit Go.Proofs.Tryz
attribute [local go_sem ↓] Go.wp_at_zero Go.wp_at_succ
theorem Qet {ar:List Tri}{l:List Int}{c:Nat}{x:Qam} (h:(gateRow ar l)[c]?=some x):x.1.Pairwise (·<·):=by
 have hc:c<(Qav l).toNat:=by rw [←Qau ar l];exact (Zs h).1
 rw [Qco hc] at h
 cases h
 exact List.Pairwise.filter _ (Qkr _ _)
theorem Qes {ar:List Tri}{l:List Int}{c:Nat}{x:Qam} (h:(gateRow ar l)[c]?=some x):x.2.Pairwise (·<·):=by
 have hc:c<(Qav l).toNat:=by rw [←Qau ar l];exact (Zs h).1
 rw [Qco hc] at h
 cases h
 exact List.Pairwise.filter _ (Qkr _ _)
def srt (zs:List Int):List Int:=zs.mergeSort fun x y=>decide (x≤y)
theorem Qzs (zs:List Int):(srt zs).length=zs.length:=by unfold srt;simp
theorem srt_mem {zs:List Int}{x:Int}:x∈srt zs↔x∈zs:=by unfold srt;exact List.mem_mergeSort
theorem srt_le (zs:List Int):(srt zs).Pairwise (·≤·):=by
 have:=List.pairwise_mergeSort (le:=fun x y:Int=>decide (x≤y)) (fun a b c h1 h2=>by simp at *;omega) (fun a b=>by simp;omega) zs;exact this.imp (fun h=>by simpa using h)
theorem Own.sorted {w:World}{B g n c:Nat}{zs:List Int} (h:Own w B 3 1 (some ⟨g,0,none⟩) n c (Qaf zs)):zs.length=n∧g<w.heap.size∧B≤g∧Go.Sort.Holds (Value.int .i64) w g 0 zs.toArray∧n≤c∧c≤9223372036854775807 ∧
 ∀ (ts:List Int) (q:Nat) (os:Array Obj),ts.length=n→Own (Go.Sort.grow (Go.Sort.putRow (Value.int .i64) (Go.Sort.ahead w q) g 0 ts.toArray) os) B 3 1 (some ⟨g,0,none⟩) n c (Qaf ts):=by
 have hl:zs.length=n:=by have:=h.1;simpa [Qaf] using this
 rcases h.2 with ⟨h',_⟩|⟨g',cap,cur,h1,h2,h3,h4,h5,h6,h7⟩
 · cases h'
 · cases h1
   have h7':cur.toList.take zs.length=zs.map (Value.int .i64):=by rw [hl];simpa [Qaf] using h7
   refine ⟨hl,(Array.getElem?_eq_some_iff.1 h3).1,h2,holds_of_blockI h3 h7',h4,(by unfold maxLen at h5;exact h5),fun ts q os ht=>?_⟩;have:=ownsRow_sortedI (os:=os) (n:=q) (ss:=zs) (ts:=ts) (by rw [ht,hl]) h2 h3 (by rw [hl];exact h4) h5 h6;rw [hl] at this;exact this
theorem sort_own (g n c B:Nat)(zs:List Int)(w:World) (h:Own w B 3 1 (some ⟨g,0,none⟩) n c (Qaf zs)) (hn:n≤1000000000) :
 Calls prog 196 #[.slice (some ⟨g,0,none⟩) n c] w fun e w'=>e=.returned (.tuple #[])∧Own w' B 3 1 (some ⟨g,0,none⟩) n c (Qaf (srt zs))∧w.grownBy w' (some g):=by
 obtain ⟨hl,hg,hB,hH,h1,h2,h3⟩:=h.sorted;have hcon:=Any.slices_Sort_int sortIL g 0 c zs w hH hg (by omega);rw [hl] at hcon;refine Calls.mono (show Calls prog 196 _ _ _ from hcon) ?_
 rintro e w' ⟨rfl,q,os,rfl⟩;exact ⟨rfl,h3 (srt zs) q os (by rw [Qzs,hl]),grownBy_sortedI _⟩
theorem Qrc (g n c B:Nat)(zs:List Int)(w:World) (h:Own w B 3 1 (some ⟨g,0,none⟩) n c (Qaf zs)) :
 Calls prog 197 #[.slice (some ⟨g,0,none⟩) n c] w fun e w'=>e=.returned (.slice (some ⟨g,0,none⟩) (Lib.compact zs).length c)∧RdI w' (some ⟨g,0,none⟩) (Lib.compact zs).length (Lib.compact zs)∧w.grownBy w' (some g):=by
 obtain ⟨hl,hg,hB,hH,h1,h2,h3⟩:=h.sorted;have hcon:=Any.slices_Compact_int compactL g 0 c zs w hH (by omega) (by omega);rw [hl] at hcon;have hcl:=Lib.compact_length_le zs;refine Calls.mono (show Calls prog 197 _ _ _ from hcon) ?_
 rintro e w' ⟨rfl,q,rfl⟩;have ho:=h3 (Lib.compact zs ++List.replicate (n-(Lib.compact zs).length) 0) q #[] (by simp;omega);rw [Go.Sort.grow_empty] at ho;have hgr:=grownBy_sortedI (w:=w) (g:=g) (n:=q) (os:=#[]) (Lib.compact zs ++List.replicate (n-(Lib.compact zs).length) 0).toArray;rw [Go.Sort.grow_empty] at hgr;refine ⟨rfl,?_,hgr⟩;have:=ho.rds.rdI.take (m:=(Lib.compact zs).length) (by omega)
 rwa [List.take_append_of_le_length (Zn _),List.take_length] at this
theorem Qrm {zs:List Int}{x:Int}:x∈Lib.compact zs↔x∈zs:=by
 unfold Lib.compact Lib.compactUpTo;simp only [List.mem_map,List.mem_filter,List.mem_range]
 constructor
 · rintro ⟨j,⟨hj,_⟩,rfl⟩
   rw [getElem!_pos _ _ (by simpa using hj)];simp
 · intro hx
   obtain ⟨k,hk⟩:=Yr hx;have hkl:=(Zs hk).1
   have hex:∃ j,j<zs.length∧zs.toArray[j]! = x∧Lib.keeps zs.toArray j=true:=by
    have hkx:zs.toArray[k]! = x:=by rw [getElem!_pos _ _ (by simpa using hkl)];simpa using (Zs hk).2
    clear hk
    induction k with
    | zero=>exact ⟨0,hkl,hkx,by simp [Lib.keeps]⟩
    | succ k ih =>
     by_cases e:zs.toArray[k+1]! = zs.toArray[k]!
     · exact ih (by omega) (by rw [←e];exact hkx)
     · exact ⟨k+1,hkl,hkx,Lib.keeps_pos e⟩
   obtain ⟨j,h1,h2,h3⟩:=hex;exact ⟨j,⟨h1,h3⟩,h2⟩
theorem Qvg {zs:List Int} (h:zs.Pairwise (·≤·)):(Lib.compact zs).Pairwise (·<·):=by
 unfold Lib.compact Lib.compactUpTo;rw [List.pairwise_map]
 have hle:∀ i j:Nat,i≤j→j<zs.length→zs.toArray[i]!≤zs.toArray[j]!:=fun i j hij hj=>by
  rw [getElem!_pos _ _ (by simp;omega),getElem!_pos _ _ (by simpa using hj)];simp only [List.getElem_toArray]
  rcases Nat.lt_or_ge i j with h1|h1
  · exact List.pairwise_iff_getElem.1 h i j (by omega) hj h1
  · obtain rfl:i=j:=by omega
    exact Int.le_refl _
 have hr:((List.range zs.length).filter (Lib.keeps zs.toArray)).Pairwise (fun i j=>i<j∧j<zs.length∧Lib.keeps zs.toArray j=true):=by
  rw [List.pairwise_filter];refine List.Pairwise.imp_of_mem ?_ (List.pairwise_lt_range (n:=zs.length));intro i j hi hj hij _ hk;exact ⟨hij,List.mem_range.1 hj,hk⟩
 refine hr.imp ?_;rintro i j ⟨hij,hj,hk⟩;have h1:=hle i (j-1) (by omega) (by omega);have h2:=hle (j-1) j (by omega) hj
 have h3:zs.toArray[j]!≠zs.toArray[j-1]!:=fun e=>by
  rw [Lib.keeps_neg (by omega) e] at hk
  cases hk
 omega
def Qey (row below:List Int)(cell:Int)(k:Nat):List Int:=((List.range k).filter (fun v:Nat=>row.getD v 0 == cell)).map (fun v=>below.getD v 0)
theorem Qpv {row below:List Int}{cell x y:Int}{k:Nat} (hx:row[k]?=some x) (hy:below[k]?=some y):Qey row below cell (k+1)=Qey row below cell k ++(if x=cell then [y] else []):=by
 unfold Qey;have ex:row.getD k 0=x:=by rw [Ya,hx];rfl
 have ey:below.getD k 0=y:=by rw [Ya,hy];rfl
 rw [List.range_succ,List.filter_append,List.map_append]
 congr 1
 by_cases e:x=cell
 · rw [if_pos e];simp only [List.filter_cons,List.filter_nil,ex,e,beq_self_eq_true,if_true,List.map_cons,List.map_nil,ey]
 · rw [if_neg e];simp only [List.filter_cons,List.filter_nil,ex,beq_eq_false_iff_ne.2 e,Bool.false_eq_true,if_false,List.map_nil]
theorem Qsu (row below:List Int)(cell:Int)(k:Nat):(Qey row below cell k).length≤k:=by
 unfold Qey;rw [List.length_map];exact Yx (List.length_filter_le _ _) (by simp)
theorem Qli {row below:List Int}{cell x:Int}{n:Nat}(h1:row.length=n)(h2:below.length=n):x∈Qey row below cell n↔∃ v:Nat,row[v]?=some cell∧below[v]?=some x:=by
 unfold Qey;simp only [List.mem_map,List.mem_filter,List.mem_range,beq_iff_eq,Ya]
 constructor
 · rintro ⟨v,⟨hv,e1⟩,e2⟩
   have a1:row[v]?=some row[v]:=Zg (by omega);have a2:below[v]?=some below[v]:=Zg (by omega);rw [a1] at e1;rw [a2] at e2;refine ⟨v,?_,?_⟩
   · rw [a1];exact congrArg some e1
   · rw [a2];exact congrArg some e2
 · rintro ⟨v,e1,e2⟩
   refine ⟨v,⟨by have:=(Zs e1).1;omega,by rw [e1];rfl⟩,by rw [e2];rfl⟩
def Qdc (row below:List Int)(cell:Int)(n:Nat):List Int:=Lib.compact (srt (Qey row below cell n))
theorem Qxr (row below:List Int)(cell:Int)(n:Nat):(Qdc row below cell n).Pairwise (·<·):=Qvg (srt_le _)
theorem Qis {row below:List Int}{cell x:Int}{n:Nat}(h1:row.length=n)(h2:below.length=n):x∈Qdc row below cell n↔∃ v:Nat,row[v]?=some cell∧below[v]?=some x:=by
 unfold Qdc;rw [Qrm,srt_mem,Qli h1 h2]
theorem Qvx (row below:List Int)(cell:Int)(n:Nat):(Qdc row below cell n).length≤n:=by
 unfold Qdc;refine Yx (Lib.compact_length_le _) ?_;rw [Qzs];exact Qsu _ _ _ _
set_option maxHeartbeats 2000000 in
theorem kids_own (Q:Option Addr)(L cq j n:Nat)(cell:Int) (ls:List (List Int)) (row below:List Int) (w:World) (h:RdT w Q L ls) (hr:ls[j+1]?=some row) (hb:ls[j]?=some below) (hL:L≤1000000) (h1:row.length=n) (h2:below.length=n) (hn:n≤1000000) (hne:cell∈row) :
 Calls prog 187 #[.agg #[.slice Q L cq],.int .i64 ((j:Int)+1+1),.int .i64 cell] w fun e w'=>∃ A c,e=.returned (.slice A (Qdc row below cell n).length c)∧RdI w' A (Qdc row below cell n).length (Qdc row below cell n)∧(∀ b,Qac A=some b→w.heap.size≤b)∧Below w.heap.size w w':=by
 have HN1:=Zh (show ∀ V,Below w.heap.size w V→Calls prog 193 #[.agg #[.slice Q L cq],.int .i64 ((j:Int)+1)] V fun e w'=>∃ A n c,e=.returned (.slice A n c)∧RdI V A n below∧n≤c∧c≤9223372036854775807∧Below V.heap.size V w' from fun V hV=>Qir Q L cq j ls below V (h.below hV) hb hL)
 have HN2:=Zh (show ∀ V,Below w.heap.size w V→Calls prog 193 #[.agg #[.slice Q L cq],.int .i64 ((j:Int)+1+1)] V fun e w'=>∃ A n c,e=.returned (.slice A n c)∧RdI V A n row∧n≤c∧c≤9223372036854775807∧Below V.heap.size V w' from fun V hV=>by
  have:=Qir Q L cq (j+1) ls row V (h.below hV) hr hL
  simpa using this)
 have HL1:=Zh h1;have HL2:=Zh h2;have HNE:=Zh hne;have hjL:j+1<L:=by rw [←h.1];exact (Zs hr).1
 clear h hr hb h1 h2 hne;have i1:¬((j:Int)+1+1<2):=by omega
 have i2:(j:Int)+1+1-1=(j:Int)+1:=by omega
 go_enter func187,ntmps187
 go_wp2_with fail
 (refine Qab ?_;intro w1 hw1)
 have hb1:Below w.heap.size w w1:=by rw [hw1];exact Qag
 have hQ:Blk w1 w.heap.size 132 #[.slice Q L cq]:=by rw [hw1];exact Qay
 clear hw1;with_reducible refine (HN1.out w1 hb1).mono ?_
 rintro e w2 ⟨Ab,n1,cb,rfl,hrb,_,_,hb2⟩;obtain rfl:n=n1:=by rw [←hrb.1];exact HL2.out.symm
 have hbw2:=Zb hb1 hb2;have HRB:=Zh (hrb.below hb2);have y0:=(hQ.below hb2 hQ.lt).cell 0;simp only [Yo,Yn] at y0;clear hrb hb2 hQ
 go_wp2_with fail
 with_reducible refine (HN2.out w2 hbw2).mono ?_
 rintro e w3 ⟨Ar,n2,cr,rfl,hrr,_,_,hb3⟩;obtain rfl:n=n2:=by rw [←hrr.1];exact HL1.out.symm
 have hbw3:=Zb hbw2 hb3;have HRR:=Zh (hrr.below hb3);have HRB3:=Zh (HRB.out.below hb3);have hz0:=hbw3.size;clear hrr hb3 y0 HRB
 go_wp2_with fail
 go_loopw [8,21] (fun x q W=>w3.heap.size≤W.heap.size∧Below w3.heap.size w3 W∧∃ (k:Nat) (X:Option Addr) (m cx:Nat),k≤n∧q=.int .i64 k∧x=.slice X m cx∧m≤k∧Own W w3.heap.size 3 1 X m cx (Qaf (Qey row below cell k))) (fun _ q _=>n-(intOf q).toNat)
 case atStart=>exact ⟨Zn _,Zr _ _,0,none,0,0,Nat.zero_le _,rfl,rfl,Zn _,Own.nil _ _ _ _⟩
 case round =>
  obtain ⟨hsz,hbl,k,X,m,cx,hk,rfl,rfl,hmk,hown⟩:=hrel
  by_cases hlt:k<n
  · obtain ⟨rb,ro,x,rfl,hx,hcx⟩:=HRR.out.at_ hlt
    obtain ⟨bb,bo,y,rfl,hy,hcy⟩:=HRB3.out.at_ hlt;have hcx2:=Zc hbl (Zn _) hcx;have hcy2:=Zc hbl (Zn _) hcy;have HNX:=Zh (Qpv (cell:=cell) hx hy);have k1:(0:Int)≤(k:Int):=by omega
    have k2:(k:Int)<(n:Int):=by omega
    clear hx hy hcx hcy
    by_cases hxc:x=cell
    · have e1:(x == cell)=true:=by simpa using hxc
      have HXC:=Zh hxc;clear hxc;have hr4:Below wr.heap.size wr (wr.alloc (.cells #[.int .i64 y] 3)):=Qag;have hownA:=hown.below hr4;have hrA:Rds (wr.alloc (.cells #[.int .i64 y] 3)) 1 (some ⟨wr.heap.size,0,none⟩) 1 (Qaf [y]):=(Blk.new wr 3 (Qcs [y])).rds rfl;have hblA:=Zb hbl hr4
      go_wp2_with (at_builtin;with_reducible refine Qan rfl (.tmp 35) (.tmp 40) 61 rfl 3 _ 1 8 Qbs underlying61 rfl (by omega) rfl rfl hownA hrA (Qao _) (by omega) (by omega) (by simp;omega) ?_)
      intro A' c' w' hown' hg _;have hbl5:Below w3.heap.size w3 w':=Zo hblA hg hownA (by simp;omega);have hsz5:=hbl5.size;have HO:=Zh hown';clear hown' hg hownA hrA hblA hr4 hown hbl
      go_wp2
      go_roundw
      case rel=>exact ⟨hsz5,hbl5,k+1,A',m+1,c',by omega,by go_num,rfl,by omega,by rw [HNX.out,if_pos HXC.out,Qbr];exact HO.out⟩
      case measure=>simp [intOf];omega
    · have e1:(x == cell)=false:=by simpa using hxc
      have HXC:=Zh hxc;clear hxc
      go_wp2_with fail
      go_roundw
      case rel=>exact ⟨hsz,hbl,k+1,X,m,cx,by omega,by go_num,rfl,by omega,by rw [HNX.out,if_neg HXC.out];simpa using hown⟩
      case measure=>simp [intOf];omega
  · obtain rfl:n=k:=by omega
    have hm:(Qey row below cell n).length=m:=by have:=hown.1;simpa [Qaf] using this
    have hm0:0<m:=by
     obtain ⟨v,hv⟩:=Yr HNE.out;have hvn:=(Zs hv).1;rw [HL1.out] at hvn;obtain ⟨z,hz⟩:∃ z,below[v]?=some z:=⟨_,Zg (by rw [HL2.out];exact hvn)⟩;have hmem:=(Qli HL1.out HL2.out).2 ⟨v,hv,hz⟩;rw [←hm];exact List.length_pos_of_mem hmem
    obtain ⟨gk,cur,rfl,hgk,_⟩:=hown.block hm0;have HS:=Zh (sort_own gk m cx w3.heap.size _ wr hown (by omega));clear hown hm hm0 HNE
    go_wp2_with fail
    with_reducible refine HS.out.mono ?_
    rintro e w5 ⟨rfl,hown5,hg5⟩;have hbl5:Below w3.heap.size w3 w5:=hbl.grown hg5 hsz (fun k hk=>by cases hk;exact hgk)
    have hz5:=hg5.size;have HC:=Zh (Qrc gk m cx w3.heap.size _ w5 hown5);clear hown5 hg5 HS
    go_wp2_with fail
    with_reducible refine HC.out.mono ?_
    rintro e w6 ⟨rfl,hr6,hg6⟩;have hbl6:Below w3.heap.size w3 w6:=hbl5.grown hg6 (by omega) (fun k hk=>by cases hk;exact hgk)
    have HR6:=Zh hr6;clear hr6 hg6 HC
    go_wp2_with fail
    go_ret
    exact ⟨_,_,rfl,HR6.out,fun b hb=>by injection hb with hb;simp only at hb;omega,Zb hbw3 hbl6⟩
theorem Qzr (o j n:Nat)(cell:Int)(ar:List Tri) (ls:List (List Int)) (row below:List Int) (w:World) (h:Qfw w o ar ls) (hr:ls[j+1]?=some row) (hb:ls[j]?=some below) (hL:ls.length≤1000000) (h1:row.length=n) (h2:below.length=n) (hn:n≤1000000) (hne:cell∈row) :
 Calls prog 157 #[.pointer (some ⟨o,0,none⟩),.int .i64 ((j:Int)+1+1),.int .i64 cell] w fun e w'=>∃ A c,e=.returned (.slice A (Qdc row below cell n).length c)∧RdI w' A (Qdc row below cell n).length (Qdc row below cell n)∧(∀ b,Qac A=some b→w.heap.size≤b)∧Below w.heap.size w w':=by
 obtain ⟨Q,F,T,G,S,L,m,cq,cf,ct,cg,cs,h⟩:=h;have h0:=h.n0;have HK:=Zh (kids_own Q L cq j n cell ls row below w h.part hr hb (by rw [←h.part.1];exact hL) h1 h2 hn hne);clear h hr hb hL h1 h2 hn hne;generalize Qdc row below cell n=ks at *
 go_enter func157,ntmps157
 go_wp2_with fail
 with_reducible refine HK.out.mono ?_
 rintro e w' ⟨A,c,rfl,hA,hlt,hbl⟩;have HA:=Zh hA;clear hA
 go_wp2_with fail
 go_ret
 exact ⟨A,c,rfl,HA.out,hlt,hbl⟩
end Go.Proofs.YtdheeddnkdhfeaaGreatDoor
namespace Go.Proofs.YtdheeddnkdhfeaaGreatDoor
theorem Qlk {ar:List Tri}{l:List Int}{c:Nat}{x:Qam} (hx:(gateRow ar l)[c]?=some x) {y:Int}:y∈x.1↔y∈Qax ar l∧toC ar l y=(c:Int):=by
 have hc:c<(Qav l).toNat:=by rw [←Qau ar l];exact (Zs hx).1
 rw [Qco hc] at hx
 cases hx
 simp only [List.mem_filter,beq_iff_eq]
theorem Qqc {ar:List Tri}{l:List Int}{c:Nat}{x:Qam} (hx:(gateRow ar l)[c]?=some x) {y:Int}:y∈x.2↔y∈Qax ar l∧frC ar l y=(c:Int):=by
 have hc:c<(Qav l).toNat:=by rw [←Qau ar l];exact (Zs hx).1
 rw [Qco hc] at hx
 cases hx
 simp only [List.mem_filter,beq_iff_eq]
theorem Qcx {ar:List Tri}{l:List Int}{y:Int}:y∈Qax ar l↔∃ (a:Nat) (t:Tri),y=(a:Int)∧ar[a]?=some t∧Qad l t.1≠Qad l t.2.1:=by
 unfold Qax Qin;rw [List.mem_map]
 constructor
 · rintro ⟨p,hp,rfl⟩
   obtain ⟨h1,h2⟩:=List.mem_filter.1 hp;refine ⟨p.2,p.1,rfl,(List.mem_zipIdx_iff_getElem?.1 h1),?_⟩
   simpa [Qcj] using h2
 · rintro ⟨a,t,rfl,h1,h2⟩
   exact ⟨(t,a),List.mem_filter.2 ⟨List.mem_zipIdx_iff_getElem?.2 h1,by simpa [Qcj] using h2⟩,rfl⟩
theorem Qdj {l:List Int}{v:Nat}(h:v<l.length):l[v]?=some (Qad l (v:Int)):=by
 rw [Qat (Zg h),Zg h]
theorem Qip {ar:List Tri}{n:Nat}{l:List Int}(hl:Qfz n l){z:Int}(hz:z∈l):∃ q:Nat,z=(q:Int)∧∃ y,(gateRow ar l)[q]?=some y:=by
 have h0:=hl.lo z hz;have h1:=Quh hz;exact ⟨z.toNat,by omega,_,Qco (by omega)⟩
theorem Qfv {l lb:List Int}{n u v:Nat}(hn:Qdx lb l)(h1:l.length=n)(h2:lb.length=n)(hu:u<n)(hv:v<n) (h:Qad l (u:Int)≠Qad l (v:Int)):Qad lb (u:Int)≠Qad lb (v:Int):=by
 intro e;have a1:=Qdj (l:=l) (v:=u) (by omega);have a2:=Qdj (l:=l) (v:=v) (by omega);have b1:=Qdj (l:=lb) (v:=u) (by omega);have b2:=Qdj (l:=lb) (v:=v) (by omega);have c1:=hn u v _ _ _ _ b1 b2 a1 a2 (by omega);have c2:=hn v u _ _ _ _ b2 b1 a2 a1 (by omega);exact h (by omega)
theorem Qvy {n c:Nat}{l:List Int}(hl:Qfz n l) (hc:c<(Qav l).toNat):(c:Int)∈l:=hl.all c (by omega)
end Go.Proofs.YtdheeddnkdhfeaaGreatDoor
namespace Go.Proofs.YtdheeddnkdhfeaaGreatDoor
open Go.RowKit Go.Proofs.Tryz
theorem Qjz {l:List Int}{c:Int}{v:Int}(h:v.toNat<l.length):(Qeu l c).getD v.toNat false=true↔Qad l v=c:=by
 unfold Qeu Qad;rw [Ya,Ya,Yt,Zg h];simp
theorem Qdd {N:Qak}(hok:Qas N){l:List Int}(hl:l.length=N.vs.length){c:Int}{a b:Nat}{d:Int}:StA N (Qeu l c) a b d ↔
 ∃ x y,N.ar[a]?=some x∧N.ar[b]?=some y∧x.2.1=y.1∧Qaw N a b≠1152921504606846976∧y.2.2≠1152921504606846976∧Qad l y.1=c∧Qad l y.2.1=c∧d=Qaw N a b+y.2.2:=by
 constructor
 · rintro ⟨y,hy,h1,h2,h3,h4,h5⟩
   obtain ⟨x,y',hx,hy',e⟩:=Qcg h1;rw [hy] at hy'
   cases hy'
   have ho:=hok.arcs y (Zm hy);have f0:=ho.f0;have f1:=ho.f1;have g0:=ho.g0;have g1:=ho.g1;exact ⟨x,y,hx,hy,e,h1,h2,(Qjz (by omega)).1 h3,(Qjz (by omega)).1 h4,h5⟩
 · rintro ⟨x,y,hx,hy,e,h1,h2,h3,h4,h5⟩
   have ho:=hok.arcs y (Zm hy);have f0:=ho.f0;have f1:=ho.f1;have g0:=ho.g0;have g1:=ho.g1;exact ⟨y,hy,h1,h2,(Qjz (by omega)).2 h3,(Qjz (by omega)).2 h4,h5⟩
def toV (N:Qak)(a:Nat):Int:=(N.ar.getD a (0,0,0)).2.1
def frV (N:Qak)(a:Nat):Int:=(N.ar.getD a (0,0,0)).1
def wV (N:Qak)(a:Nat):Int:=(N.ar.getD a (0,0,0)).2.2
theorem Qbq {N:Qak}{a:Nat}{x:Tri} (h:N.ar[a]?=some x):toV N a=x.2.1∧frV N a=x.1∧wV N a=x.2.2:=by
 unfold toV frV wV;rw [Ya,h];exact ⟨rfl,rfl,rfl⟩
theorem Qdi {N:Qak}{l:List Int}{c:Nat}{x:Qam} (hx:(gateRow N.ar l)[c]?=some x) {a:Nat}:(a:Int)∈x.1↔∃ y,N.ar[a]?=some y∧Qad l y.1≠c∧Qad l y.2.1=c:=by
 rw [Qlk hx,Qcx]
 constructor
 · rintro ⟨⟨a',t,e,h1,h2⟩,h3⟩
   have:a'=a:=by omega
   subst this;rw [Qnr h1] at h3;exact ⟨t,h1,by rw [←h3];exact h2,h3⟩
 · rintro ⟨t,h1,h2,h3⟩
   exact ⟨⟨a,t,rfl,h1,by rw [h3];exact h2⟩,by rw [Qnr h1];exact h3⟩
theorem Qce {N:Qak}{l:List Int}{c:Nat}{x:Qam} (hx:(gateRow N.ar l)[c]?=some x) {a:Nat}:(a:Int)∈x.2↔∃ y,N.ar[a]?=some y∧Qad l y.1=c∧Qad l y.2.1≠c:=by
 rw [Qqc hx,Qcx]
 constructor
 · rintro ⟨⟨a',t,e,h1,h2⟩,h3⟩
   have:a'=a:=by omega
   subst this;rw [Qoa h1] at h3;exact ⟨t,h1,h3,by rw [←h3];exact fun e=>h2 e.symm⟩
 · rintro ⟨t,h1,h2,h3⟩
   exact ⟨⟨a,t,rfl,h1,by rw [h2];exact fun e=>h3 e.symm⟩,by rw [Qoa h1];exact h2⟩
/-! By arcs: each place an arc. -/
structure Qsg (N:Qak) (l:List Int) (c:Nat) (x:Qam) (arcs:List Nat) (L:Nat→List Stp):Prop where
 at_:∀ a∈arcs,∃ y,N.ar[a]?=some y∧Qad l y.2.1=c
 snd:∀ p a,arcs[p]?=some a→∀ s∈L p,∃ b,Qaw N a b≠1152921504606846976∧((∃ k:Nat,x.2[k]?=some (b:Int)∧s.2.1=(k:Int)∧s.2.2=Qaw N a b)∨((b:Int) ∉ x.2∧wV N b≠1152921504606846976∧s.2.1<0∧arcs[s.1]?=some b∧s.2.2=Qaw N a b+wV N b))
 outC:∀ p a b (k:Nat),arcs[p]?=some a→Qaw N a b≠1152921504606846976→x.2[k]?=some (b:Int)→∃ s∈L p,s.2.1=(k:Int)∧s.2.2=Qaw N a b
 toC:∀ p a b,arcs[p]?=some a→Qaw N a b≠1152921504606846976→(b:Int) ∉ x.2→wV N b≠1152921504606846976→∃ s∈L p,s.2.1<0∧arcs[s.1]?=some b∧s.2.2=Qaw N a b+wV N b
section
variable {N:Qak} {l:List Int} {c:Nat} {x:Qam} {arcs:List Nat} {L:Nat→List Stp}
theorem Qsg.fwd (h:Qsg N l c x arcs L)(hok:Qas N)(hl:l.length=N.vs.length) (hx:(gateRow N.ar l)[c]?=some x) {i s:Nat} (hi:arcs[i]?=some s) {p:Nat} {d:Int} (hr:Rch (StF L) i p d) :
 ∃ a,arcs[p]?=some a∧Rch (StA N (Qeu l c)) s a d:=by
 induction hr with
 | start=>exact ⟨s,hi,.start⟩
 | @step p q d e _ h2 ih =>
  obtain ⟨a,ha,hr⟩:=ih;obtain ⟨t,ht,h3,rfl,rfl⟩:=h2;obtain ⟨b,h4,h5⟩:=h.snd p a ha t ht
  rcases h5 with ⟨k,_,h6,_⟩|⟨h6,h7,_,h8,h9⟩
  · omega
  · refine ⟨b,h8,hr.step ((Qdd hok hl).2 ?_)⟩
    obtain ⟨xa,y,hxa,hy,e⟩:=Qcg h4;rw [(Qbq hy).2.2] at h7 h9;obtain ⟨xa',hxa',hc⟩:=h.at_ a (Zm ha);rw [hxa] at hxa'
    cases hxa'
    refine ⟨xa,y,hxa,hy,e,h4,h7,by rw [←e];exact hc,?_,h9⟩
    apply Classical.byContradiction
    intro hn;exact h6 ((Qce hx).2 ⟨y,hy,by rw [←e];exact hc,hn⟩)
theorem Qsg.bwd (h:Qsg N l c x arcs L)(hok:Qas N)(hl:l.length=N.vs.length) (hx:(gateRow N.ar l)[c]?=some x) {i s:Nat} (hi:arcs[i]?=some s) {a:Nat} {d:Int} (hr:Rch (StA N (Qeu l c)) s a d) :
 ∃ p,arcs[p]?=some a∧Rch (StF L) i p d:=by
 induction hr with
 | start=>exact ⟨i,hi,.start⟩
 | @step a b d e _ h2 ih =>
  obtain ⟨p,ha,hr⟩:=ih;obtain ⟨xa,y,hxa,hy,e,h4,h7,h8,h9,rfl⟩:=(Qdd hok hl).1 h2;have hw:=(Qbq hy).2.2
  obtain ⟨t,ht,h10,h11,h12⟩:=h.toC p a b ha h4 (fun hm=>by
   obtain ⟨y',hy',_,h13⟩:=(Qce hx).1 hm;rw [hy] at hy'
   cases hy'
   exact h13 h9) (by rw [hw];exact h7)
  exact ⟨t.1,h11,hr.step ⟨t,ht,h10,rfl,by rw [h12,hw]⟩⟩
theorem Qsg.entry (h:Qsg N l c x arcs L)(hok:Qas N)(hl:l.length=N.vs.length) (hx:(gateRow N.ar l)[c]?=some x) {i s k t:Nat} (hi:arcs[i]?=some s) (hk:x.2[k]?=some (t:Int)) {v:Int} (hv:Lst (Ras (StF L) (OuF L) i k) v) :
 Qgx N (Qeu l c) s t v:=by
 have hinj:∀ (b k':Nat),x.2[k']?=some (b:Int)→k'=k→b=t:=fun b k' h1 e=>by
  subst e;rw [hk] at h1;have:=Yv h1;omega
 refine hv.conv (fun d hd=>?_) (fun d hd=>?_)
 · obtain ⟨p,d1,d2,h1,⟨u,hu,h2,h3⟩,rfl⟩:=hd
   obtain ⟨a,ha,hr⟩:=h.fwd hok hl hx hi h1;obtain ⟨b,h4,h5⟩:=h.snd p a ha u hu
   rcases h5 with ⟨k',h6,h7,h8⟩|⟨_,_,h6,_⟩
   · have hb:=hinj b k' h6 (by omega)
     subst hb;exact ⟨_,⟨a,d1,_,hr,⟨h4,rfl⟩,rfl⟩,by omega⟩
   · omega
 · obtain ⟨a,d1,d2,h1,⟨h2,h3⟩,rfl⟩:=hd
   obtain ⟨p,ha,hr⟩:=h.bwd hok hl hx hi h1;obtain ⟨u,hu,h4,h5⟩:=h.outC p a t k ha h2 hk;exact ⟨_,⟨p,d1,_,hr,⟨u,hu,h4,rfl⟩,rfl⟩,by omega⟩
theorem Qsg.bound (h:Qsg N l c x arcs L)(hok:Qas N)(hl:l.length=N.vs.length) (hx:(gateRow N.ar l)[c]?=some x) {i s:Nat} (hi:arcs[i]?=some s) (hnd:arcs.Nodup) (p:Nat) (d:Int) (hr:Rch (StF L) i p d):∃ e,Rch (StF L) i p e∧e≤MB:=by
 obtain ⟨a,ha,h1⟩:=h.fwd hok hl hx hi hr;obtain ⟨e,h2,h3⟩:=Qje hok a d h1;obtain ⟨q,hq,h4⟩:=h.bwd hok hl hx hi h2;have:q=p:=(List.getElem?_inj (Zs hq).1 hnd).1 (hq.trans ha.symm);subst this;exact ⟨e,h4,h3⟩
end
/-! By kids: each place an arc that enters a kid. -/
def StC (N:Qak)(lb:List Int)(x:Qam):Qbz:=fun a m d=>∃ v,(∃ y z,N.ar[a]?=some y∧N.ar[m]?=some z∧Qad lb y.1≠Qad lb y.2.1∧Qad lb z.1=Qad lb y.2.1∧Qad lb z.2.1≠Qad lb y.2.1∧z.2.2≠1152921504606846976∧d=v+z.2.2 ∧
 Qgx N (Qeu lb (Qad lb y.2.1)) a m v)∧v≠1152921504606846976∧(m:Int) ∉ x.2
def OuC (N:Qak)(lb:List Int)(x:Qam):Qbz:=fun a m v=>(∃ y z,N.ar[a]?=some y∧N.ar[m]?=some z∧Qad lb y.1≠Qad lb y.2.1∧Qad lb z.1=Qad lb y.2.1∧Qad lb z.2.1≠Qad lb y.2.1 ∧
 Qgx N (Qeu lb (Qad lb y.2.1)) a m v)∧v≠1152921504606846976∧(m:Int)∈x.2
def StK (N:Qak)(l lb:List Int)(c:Nat):Qbz:=fun a b d=>StA N (Qeu l c) a b d∧Qad lb (frV N b)=Qad lb (toV N b)
section
variable {N:Qak} {l lb:List Int} {c:Nat} {x:Qam}
theorem Qxe (hok:Qas N)(hl:l.length=N.vs.length)(hb:lb.length=N.vs.length){a p:Nat}{y:Tri}{d:Int} (hy:N.ar[a]?=some y) (hr:Rch (StK N l lb c) a p d) :
 Rch (StA N (Qeu lb (Qad lb y.2.1))) a p d∧∃ z,N.ar[p]?=some z∧Qad lb z.2.1=Qad lb y.2.1:=by
 induction hr with
 | start=>exact ⟨.start,y,hy,rfl⟩
 | @step p q d e _ h2 ih =>
  obtain ⟨ih,z,hz,hc⟩:=ih;obtain ⟨h3,h4⟩:=h2;obtain ⟨z',w,hz',hw,e1,h5,h6,h7,h8,rfl⟩:=(Qdd hok hl).1 h3;rw [hz] at hz'
  cases hz'
  obtain ⟨t1,t2,t3⟩:=Qbq hw;rw [t1,t2] at h4;refine ⟨ih.step ((Qdd hok hb).2 ⟨z,w,hz,hw,e1,h5,h6,by rw [←e1];exact hc,?_,rfl⟩),w,hw,?_⟩
  · rw [←h4,←e1];exact hc
  · rw [←h4,←e1];exact hc
theorem Qpl (hok:Qas N)(hl:l.length=N.vs.length)(hb:lb.length=N.vs.length)(hn:Qdx lb l){y z:Tri}(hy:y∈N.ar)(u v:Int)(hu:u=y.2.1)(hv:v=z.2.1∨v=z.1)(hz:z∈N.ar)(h:Qad lb u=Qad lb v):Qad l u=Qad l v:=by
 have o1:=hok.arcs y hy;have o2:=hok.arcs z hz;have a0:=o1.g0;have a1:=o1.g1;have b0:=o2.g0;have b1:=o2.g1;have c0:=o2.f0;have c1:=o2.f1
 apply Classical.byContradiction
 intro hne;have hu0:0≤u∧u<N.vs.length:=by subst hu;exact ⟨a0,a1⟩
 have hv0:0≤v∧v<N.vs.length:=by rcases hv with rfl|rfl <;> omega
 obtain ⟨u',rfl⟩:∃ u':Nat,u=(u':Int):=⟨u.toNat,by omega⟩;obtain ⟨v',rfl⟩:∃ v':Nat,v=(v':Int):=⟨v.toNat,by omega⟩;exact Qfv hn hl hb (by omega) (by omega) hne h
theorem Qxl (hok:Qas N)(hl:l.length=N.vs.length)(hb:lb.length=N.vs.length)(hn:Qdx lb l){a p:Nat}{y:Tri}{d:Int} (hy:N.ar[a]?=some y) (hc:Qad l y.2.1=c) (hr:Rch (StA N (Qeu lb (Qad lb y.2.1))) a p d) :
 Rch (StK N l lb c) a p d:=by
 induction hr with
 | start=>exact .start
 | @step p q d e _ h2 ih =>
  obtain ⟨z,w,hz,hw,e1,h5,h6,h7,h8,rfl⟩:=(Qdd hok hb).1 h2;have m1:=Zm hy;have m2:=Zm hw;obtain ⟨t1,t2,t3⟩:=Qbq hw;refine ih.step ⟨(Qdd hok hl).2 ⟨z,w,hz,hw,e1,h5,h6,?_,?_,rfl⟩,by rw [t1,t2,h7,h8]⟩
  · rw [←Qpl hok hl hb hn m1 y.2.1 w.1 rfl (.inr rfl) m2 h7.symm];exact hc
  · rw [←Qpl hok hl hb hn m1 y.2.1 w.2.1 rfl (.inl rfl) m2 h8.symm];exact hc
def Qev (N:Qak)(l lb:List Int)(c:Nat)(a:Nat):Prop:=∃ y,N.ar[a]?=some y∧Qad lb y.1≠Qad lb y.2.1∧Qad l y.2.1=c
theorem nested (hok:Qas N)(hl:l.length=N.vs.length)(hb:lb.length=N.vs.length)(hn:Qdx lb l) (hx:(gateRow N.ar l)[c]?=some x)
 (hE:∀ a m y z,Qev N l lb c a→N.ar[a]?=some y→N.ar[m]?=some z→Qad lb z.1=Qad lb y.2.1→Qad lb z.2.1≠Qad lb y.2.1→∃ v,Qgx N (Qeu lb (Qad lb y.2.1)) a m v) {k:Nat} (hk:(k:Int)∈x.2) :
 Qkd (StA N (Qeu l c)) (fun a t d=>OuA N a t d∧t=k) (StK N l lb c) (fun a m v=>∃ y,N.ar[a]?=some y∧Qgx N (Qeu lb (Qad lb y.2.1)) a m v) (fun a m d=>StC N lb x a m d∧Qev N l lb c a∧Qev N l lb c m) (fun a t d=>OuC N lb x a t d∧Qev N l lb c a∧t=k) (Qev N l lb c) (wV N) (OuA N) where
 sub:=fun p q d h=>h.1
 split:=fun p q d h=>by
  obtain ⟨z,w,hz,hw,e1,h5,h6,h7,h8,rfl⟩:=(Qdd hok hl).1 h;obtain ⟨t1,t2,t3⟩:=Qbq hw
  by_cases hc:Qad lb w.1=Qad lb w.2.1
  · exact .inl ⟨h,by rw [t1,t2];exact hc⟩
  · have:=(Qdw (hok.arcs w (Zm hw)).w).resolve_left h6
    exact .inr ⟨⟨w,hw,hc,h8⟩,_,⟨h5,rfl⟩,by rw [t3],by rw [t3];exact this.1⟩
 join:=fun a p q c' t _ _ h1 ⟨d,h2,_⟩=>by
  obtain ⟨z,w,hz,hw,e1,h5,h6,h7,h8,rfl⟩:=(Qdd hok hl).1 h2;obtain ⟨t1,t2,t3⟩:=Qbq hw;obtain ⟨_,rfl⟩:=h1;rw [t3];exact h2
 cst:=fun a q d h=>by
  obtain ⟨⟨v,⟨y,z,hy,hz,h1,h2,h3,h4,rfl,h5⟩,h6,h7⟩,h8,h9⟩:=h;refine ⟨h8,h9,v,⟨y,hy,h5⟩,by rw [(Qbq hz).2.2],?_⟩
  rcases h5 with ⟨⟨p,c1,t,g1,g2,rfl⟩,_⟩|⟨g,_⟩
  · obtain ⟨y',hy',_,hcy⟩:=h8
    rw [hy] at hy'
    cases hy'
    refine ⟨p,c1,t,Qxl hok hl hb hn hy hcy g1,g2,rfl,?_⟩;obtain ⟨g3,rfl⟩:=g2;obtain ⟨w,z',hw,hz',e⟩:=Qcg g3;rw [hz] at hz'
    cases hz'
    obtain ⟨z',hz',_,hcz⟩:=h9;rw [hz] at hz'
    cases hz'
    have m1:=Zm hy;have m2:=Zm hz;refine (Qdd hok hl).2 ⟨w,z,hw,hz,e,g3,h4,?_,hcz,by rw [(Qbq hz).2.2]⟩;rw [←Qpl hok hl hb hn m1 y.2.1 z.1 rfl (.inr rfl) m2 h2.symm];exact hcy
  · exact absurd g h6
 cst2:=fun a p q c' t hin hr ht hq hst hns=>by
  obtain ⟨y,hy,h1,h2⟩:=hin;obtain ⟨g1,u,hu,g2⟩:=Qxe hok hl hb hy hr;obtain ⟨z,w,hz,hw,e1,h5,h6,h7,h8,h9⟩:=(Qdd hok hl).1 hst;rw [hu] at hz
  cases hz
  obtain ⟨t1,t2,t3⟩:=Qbq hw;have hne:Qad lb w.1≠Qad lb w.2.1:=fun e=>hns ⟨hst,by rw [t1,t2];exact e⟩
  have hf:Qad lb w.1=Qad lb y.2.1:=by rw [←e1];exact g2
  obtain ⟨v,hv⟩:=hE a q y w ⟨y,hy,h1,h2⟩ hy hw hf (by rw [←hf];exact fun e=>hne e.symm)
  have hle:v≤c'+t∧v≠1152921504606846976:=by
   rcases hv with ⟨⟨p',c1,t',k1,k2,rfl⟩,k3⟩|⟨_,k3⟩
   · refine ⟨k3 _ ⟨p,c',t,g1,ht,rfl⟩,?_⟩
     have b1:=(Qgx.bd hok (N:=N) (v:=c1+t') (s:=a) (t:=q) (mk:=Qeu lb (Qad lb y.2.1)) (.inl ⟨⟨p',c1,t',k1,k2,rfl⟩,k3⟩));obtain ⟨e,h10,h11⟩:=Qje hok p' c1 k1;have b2:=OuA.bd hok k2;have:=k3 _ ⟨p',e,t',h10,k2,rfl⟩;unfold MB at h11;omega
   · exact absurd ⟨p,c',t,g1,ht,rfl⟩ (k3 _)
  refine ⟨v+w.2.2,⟨⟨v,⟨y,w,hy,hw,h1,hf,by rw [←hf];exact fun e=>hne e.symm,h6,rfl,hv⟩,hle.2,fun hm=>?_⟩,⟨y,hy,h1,h2⟩,hq⟩,by rw [t3];omega⟩;obtain ⟨w',hw',_,hn'⟩:=(Qce hx).1 hm;rw [hw] at hw'
  cases hw'
  exact hn' h8
 cout:=fun a k' d h=>by
  obtain ⟨⟨⟨y,z,hy,hz,h1,h2,h3,h5⟩,h6,h7⟩,h8,rfl⟩:=h
  rcases h5 with ⟨⟨p,c1,t,g1,g2,rfl⟩,_⟩|⟨g,_⟩
  · obtain ⟨y',hy',_,hcy⟩:=h8
    rw [hy] at hy'
    cases hy'
    exact ⟨p,c1,t,Qxl hok hl hb hn hy hcy g1,⟨g2,rfl⟩,rfl⟩
  · exact absurd g h6
 cout2:=fun a p k' c' t hin hr ht=>by
  obtain ⟨ht,rfl⟩:=ht;obtain ⟨y,hy,h1,h2⟩:=hin;obtain ⟨g1,u,hu,g2⟩:=Qxe hok hl hb hy hr;obtain ⟨w,z,hw,hz,e⟩:=Qcg ht.1;rw [hu] at hw
  cases hw
  have hf:Qad lb z.1=Qad lb y.2.1:=by rw [←e];exact g2
  obtain ⟨z',hz',k1,k2⟩:=(Qce hx).1 hk;rw [hz] at hz'
  cases hz'
  have hne:Qad lb z.2.1≠Qad lb y.2.1:=fun e2=>by
   have m1:=Zm hy;have m2:=Zm hz;have:=Qpl hok hl hb hn m1 y.2.1 z.2.1 rfl (.inl rfl) m2 e2.symm;exact k2 (this.symm.trans h2)
  obtain ⟨v,hv⟩:=hE a k' y z ⟨y,hy,h1,h2⟩ hy hz hf hne
  have hle:v≤c'+t∧v≠1152921504606846976:=by
   rcases hv with ⟨⟨p',c1,t',j1,j2,rfl⟩,k3⟩|⟨_,k3⟩
   · refine ⟨k3 _ ⟨p,c',t,g1,ht,rfl⟩,?_⟩
     obtain ⟨e,h10,h11⟩:=Qje hok p' c1 j1;have b2:=OuA.bd hok j2;have:=k3 _ ⟨p',e,t',h10,j2,rfl⟩;unfold MB at h11;omega
   · exact absurd ⟨p,c',t,g1,ht,rfl⟩ (k3 _)
  exact ⟨v,⟨⟨⟨y,z,hy,hz,h1,hf,hne,hv⟩,hle.2,hk⟩,⟨y,hy,h1,h2⟩,rfl⟩,hle.1⟩
end
structure StO (N:Qak) (x:Qam) (arcs:List Nat) (a:Nat) (Gone:Nat→Prop) (l:List Stp):Prop where
 snd:∀ s∈l,∃ b,Qaw N a b≠1152921504606846976∧((∃ k:Nat,x.2[k]?=some (b:Int)∧s.2.1=(k:Int)∧s.2.2=Qaw N a b)∨((b:Int) ∉ x.2∧wV N b≠1152921504606846976∧s.2.1<0∧arcs[s.1]?=some b∧s.2.2=Qaw N a b+wV N b))
 outC:∀ b (k:Nat),Gone b→Qaw N a b≠1152921504606846976→x.2[k]?=some (b:Int)→∃ s∈l,s.2.1=(k:Int)∧s.2.2=Qaw N a b
 toC:∀ b,Gone b→Qaw N a b≠1152921504606846976→(b:Int) ∉ x.2→wV N b≠1152921504606846976→∃ s∈l,s.2.1<0∧arcs[s.1]?=some b∧s.2.2=Qaw N a b+wV N b
section
variable {N:Qak} {x:Qam} {arcs:List Nat} {a b:Nat} {Gone:Nat→Prop} {l:List Stp}
theorem StO.nil (N:Qak)(x:Qam)(arcs:List Nat)(a:Nat):StO N x arcs a (fun _=>False) []:=⟨fun s h=>(by cases h),fun b k h=>h.elim,fun b h=>h.elim⟩
theorem StO.gone {G':Nat→Prop}(h:StO N x arcs a Gone l)(hg:∀ b,G' b→Qaw N a b≠1152921504606846976→Gone b):StO N x arcs a G' l :=
 ⟨h.snd,fun b k g t e=>h.outC b k (hg b g t) t e,fun b g t=>h.toC b (hg b g t) t⟩
theorem StO.more (h:StO N x arcs a Gone l)(z:Nat):StO N x (arcs ++[z]) a Gone l:=by
 have key:∀ {i:Nat} {b:Nat},arcs[i]?=some b→(arcs ++[z])[i]?=some b:=fun {i b} h=>by
  rw [Yc (Zs h).1];exact h
 refine ⟨fun s hs=>?_,h.outC,fun b g t m w=>?_⟩
 · obtain ⟨b,h1,h2⟩:=h.snd s hs
   exact ⟨b,h1,h2.imp id (fun ⟨k1,k2,k3,k4,k5⟩=>⟨k1,k2,k3,key k4,k5⟩)⟩
 · obtain ⟨s,h1,h2,h3,h4⟩:=h.toC b g t m w
   exact ⟨s,h1,h2,key h3,h4⟩
theorem StO.skip (h:StO N x arcs a Gone l) (hb:Qaw N a b=1152921504606846976∨((b:Int) ∉ x.2∧wV N b=1152921504606846976)):StO N x arcs a (fun q=>Gone q∨q=b) l:=by
 refine ⟨h.snd,fun q k g t e=>?_,fun q g t m w=>?_⟩
 · rcases g with g|rfl
   · exact h.outC q k g t e
   · rcases hb with hb|hb
     · exact absurd hb t
     · exact absurd (Zm e) hb.1
 · rcases g with g|rfl
   · exact h.toC q g t m w
   · rcases hb with hb|hb
     · exact absurd hb t
     · exact absurd hb.2 w
theorem Qol {l:List Int} (h:l.Pairwise (·<·)) {i j:Nat} {v:Int} (hi:l[i]?=some v) (hj:l[j]?=some v):i=j:=by
 have h1:=Qfg h hi;have h2:=Qfg h hj;rw [h1] at h2;omega
theorem StO.out (h:StO N x arcs a Gone l) (hs:x.2.Pairwise (·<·)) (ht:Qaw N a b≠1152921504606846976) {k:Nat} (hk:x.2[k]?=some (b:Int)):StO N x arcs a (fun q=>Gone q∨q=b) (l ++[(0,(k:Int),Qaw N a b)]):=by
 refine ⟨fun s hs=>?_,fun q k' g t e=>?_,fun q g t m w=>?_⟩
 · rcases List.mem_append.1 hs with hs|hs
   · exact h.snd s hs
   · obtain rfl:=List.mem_singleton.1 hs
     exact ⟨b,ht,.inl ⟨k,hk,rfl,rfl⟩⟩
 · rcases g with g|rfl
   · obtain ⟨s,h1,h2⟩:=h.outC q k' g t e
     exact ⟨s,List.mem_append_left _ h1,h2⟩
   · obtain rfl:=Qol hs hk e
     exact ⟨_,List.mem_append_right _ (List.mem_singleton.2 rfl),rfl,rfl⟩
 · rcases g with g|rfl
   · obtain ⟨s,h1,h2⟩:=h.toC q g t m w
     exact ⟨s,List.mem_append_left _ h1,h2⟩
   · exact absurd (Zm hk) m
theorem StO.to (h:StO N x arcs a Gone l)(ht:Qaw N a b≠1152921504606846976) (hm:(b:Int) ∉ x.2) (hw:wV N b≠1152921504606846976) {p:Nat} (hp:arcs[p]?=some b):StO N x arcs a (fun q=>Gone q∨q=b) (l ++[(p,-1,Qaw N a b+wV N b)]):=by
 refine ⟨fun s hs=>?_,fun q k' g t e=>?_,fun q g t m w=>?_⟩
 · rcases List.mem_append.1 hs with hs|hs
   · exact h.snd s hs
   · obtain rfl:=List.mem_singleton.1 hs
     exact ⟨b,ht,.inr ⟨hm,hw,(by decide:(-1:Int)<0),hp,rfl⟩⟩
 · rcases g with g|rfl
   · obtain ⟨s,h1,h2⟩:=h.outC q k' g t e
     exact ⟨s,List.mem_append_left _ h1,h2⟩
   · exact absurd (Zm e) hm
 · rcases g with g|rfl
   · obtain ⟨s,h1,h2⟩:=h.toC q g t m w
     exact ⟨s,List.mem_append_left _ h1,h2⟩
   · exact ⟨_,List.mem_append_right _ (List.mem_singleton.2 rfl),(by decide:(-1:Int)<0),hp,rfl⟩
end
structure Qjm (N:Qak) (l:List Int) (c:Nat) (arcs:List Nat) (f:Nat→Option Nat):Prop where
 at_:∀ a∈arcs,∃ y,N.ar[a]?=some y∧Qad l y.2.1=c
 map:∀ b p,f b=some p↔arcs[p]?=some b
theorem Qjm.nodup {N:Qak}{l:List Int}{c:Nat}{arcs:List Nat}{f:Nat→Option Nat}(h:Qjm N l c arcs f):arcs.Nodup:=by
 rw [List.Nodup,List.pairwise_iff_getElem];intro i j hi hj hij e;have h1:=(h.map (arcs[i]) i).2 (Zg hi);have h2:=(h.map (arcs[i]) j).2 (by rw [Zg hj,e]);rw [h1] at h2
 injection h2 with h2
 omega
theorem Qjm.len {N:Qak}{l:List Int}{c:Nat}{arcs:List Nat}{f:Nat→Option Nat}(h:Qjm N l c arcs f):arcs.length≤N.ar.length :=
 Qjn N.ar.length arcs h.nodup (fun a ha=>by obtain ⟨y,hy,_⟩:=h.at_ a ha;exact (Zs hy).1)
theorem Qjm.push {N:Qak}{l:List Int}{c b:Nat}{arcs:List Nat}{f:Nat→Option Nat}(h:Qjm N l c arcs f){y:Tri} (hy:N.ar[b]?=some y) (hc:Qad l y.2.1=c) (hno:f b=none):Qjm N l c (arcs ++[b]) (fun q=>if q=b then some arcs.length else f q):=by
 refine ⟨fun a ha=>?_,fun q p=>?_⟩
 · rcases List.mem_append.1 ha with ha|ha
   · exact h.at_ a ha
   · obtain rfl:=List.mem_singleton.1 ha
     exact ⟨y,hy,hc⟩
 · by_cases e:q=b
   · subst e
     rw [if_pos rfl]
     constructor
     · intro e2;injection e2 with e2;subst e2;rw [Yb (Zn _),Yy];rfl
     · intro e2
       rcases Nat.lt_trichotomy p arcs.length with h1|h1|h1
       · rw [Yc h1] at e2
         have:=(h.map q p).2 e2;rw [hno] at this
         cases this
       · rw [h1]
       · rw [Yd (by simp;omega)] at e2
         cases e2
   · rw [if_neg e]
     rw [h.map]
     rcases Nat.lt_trichotomy p arcs.length with h1|h1|h1
     · rw [Yc h1]
     · subst h1
       rw [Yb (Zn _),Yy,Yd (Zn _)]
       constructor
       · intro h;cases h
       · intro h;injection h with h;exact absurd h.symm e
     · have h2:(arcs ++[b])[p]?=none:=Yd (by rw [Yp,List.length_singleton];omega)
       have h3:arcs[p]?=none:=Yd (by omega);rw [h2,h3]
theorem Qsg.of {N:Qak}{l:List Int}{c:Nat}{x:Qam}{arcs:List Nat}{f:Nat→Option Nat} {Ls:List (List Stp)} (h:Qjm N l c arcs f) (hl:Ls.length=arcs.length) (hs:∀ (p a:Nat) (t:List Stp),arcs[p]?=some a→Ls[p]?=some t→StO N x arcs a (fun _=>True) t) :
 Qsg N l c x arcs (fun p=>Ls.getD p []):=by
 have key:∀ p a,arcs[p]?=some a→StO N x arcs a (fun _=>True) (Ls.getD p []):=fun p a ha=>by
  have hp:=(Zs ha).1;exact hs p a _ ha (Qbp [] (by omega))
 exact ⟨h.at_,fun p a ha s hs=>(key p a ha).snd s hs,fun p a b k ha ht hk=>(key p a ha).outC b k trivial ht hk,fun p a b ha ht hm hw=>(key p a ha).toC b trivial ht hm hw⟩
theorem Qsg.fld {N:Qak}(hok:Qas N){l:List Int}{c:Nat}{x:Qam}{arcs:List Nat} {Ls:List (List Stp)} (h:Qsg N l c x arcs (fun p=>Ls.getD p [])):Qqi (fun p=>Ls.getD p []) arcs.length x.2.length 4294967296:=by
 have key:∀ p,p<arcs.length→∀ s∈Ls.getD p [],(s.2.1<0→s.1<arcs.length)∧s.2.1<x.2.length∧0≤s.2.2∧s.2.2≤4294967296:=fun p hp s hs=>by
  obtain ⟨b,h1,h2⟩:=h.snd p _ (Zg hp) s hs;have hb:=(Qcw hok _ b).resolve_left h1
  rcases h2 with ⟨k,h3,h4,h5⟩|⟨h3,h4,h5,h6,h7⟩
  · have hk:=(Zs h3).1
    exact ⟨fun e=>by omega,by omega,by omega,by omega⟩
  · obtain ⟨xa,y,_,hy,_⟩:=Qcg h1
    rw [(Qbq hy).2.2] at h4 h7;have hw:=(Qdw (hok.arcs y (Zm hy)).w).resolve_left h4;exact ⟨fun _=>(Zs h6).1,by omega,by omega,by omega⟩
 exact Kcr
def Qyh (N:Qak)(lb:List Int)(a m:Nat)(v:Int):Prop:=∃ y z,N.ar[a]?=some y∧N.ar[m]?=some z∧Qad lb y.1≠Qad lb y.2.1∧Qad lb z.1=Qad lb y.2.1∧Qad lb z.2.1≠Qad lb y.2.1∧Qgx N (Qeu lb (Qad lb y.2.1)) a m v
structure Qtj (N:Qak) (l lb:List Int) (c:Nat) (x:Qam) (pl:List Nat) (L:Nat→List Stp):Prop where
 at_:∀ a∈pl,Qev N l lb c a
 all:∀ a,Qev N l lb c a→∃ p:Nat,pl[p]?=some a
 nd:pl.Nodup
 snd:∀ (p a:Nat),pl[p]?=some a→∀ s∈L p,∃ m v,Qyh N lb a m v∧v≠1152921504606846976∧((∃ k:Nat,x.2[k]?=some (m:Int)∧s.2.1=(k:Int)∧s.2.2=v)∨((m:Int) ∉ x.2∧wV N m≠1152921504606846976∧s.2.1<0∧pl[s.1]?=some m∧s.2.2=v+wV N m))
 outC:∀ (p a m:Nat) (v:Int) (k:Nat),pl[p]?=some a→Qyh N lb a m v→v≠1152921504606846976→x.2[k]?=some (m:Int)→∃ s∈L p,s.2.1=(k:Int)∧s.2.2=v
 toC:∀ (p a m:Nat) (v:Int),pl[p]?=some a→Qyh N lb a m v→v≠1152921504606846976→(m:Int) ∉ x.2→wV N m≠1152921504606846976→∃ s∈L p,s.2.1<0∧pl[s.1]?=some m∧s.2.2=v+wV N m
section
variable {N:Qak} {l lb:List Int} {c:Nat} {x:Qam} {pl:List Nat} {L:Nat→List Stp}
theorem Qtj.fwd (h:Qtj N l lb c x pl L){i s:Nat} (hi:pl[i]?=some s) {p:Nat} {d:Int} (hr:Rch (StF L) i p d) :
 ∃ a,pl[p]?=some a∧Rch (fun a m d=>StC N lb x a m d∧Qev N l lb c a∧Qev N l lb c m) s a d:=by
 induction hr with
 | start=>exact ⟨s,hi,.start⟩
 | @step p q d e _ h2 ih =>
  obtain ⟨a,ha,hr⟩:=ih;obtain ⟨t,ht,h3,rfl,rfl⟩:=h2;obtain ⟨m,v,⟨y,z,hy,hz,k1,k2,k3,k4⟩,h5,h6⟩:=h.snd p a ha t ht
  rcases h6 with ⟨k,_,h6,_⟩|⟨h6,h7,_,h8,h9⟩
  · omega
  · rw [(Qbq hz).2.2] at h7 h9
    exact ⟨m,h8,hr.step ⟨⟨v,⟨y,z,hy,hz,k1,k2,k3,h7,h9,k4⟩,h5,h6⟩,h.at_ a (Zm ha),h.at_ m (Zm h8)⟩⟩
theorem Qtj.bwd (h:Qtj N l lb c x pl L){i s:Nat} (hi:pl[i]?=some s) {a:Nat} {d:Int} (hr:Rch (fun a m d=>StC N lb x a m d∧Qev N l lb c a∧Qev N l lb c m) s a d) :
 ∃ p:Nat,pl[p]?=some a∧Rch (StF L) i p d:=by
 induction hr with
 | start=>exact ⟨i,hi,.start⟩
 | @step a m d e _ h2 ih =>
  obtain ⟨p,ha,hr⟩:=ih;obtain ⟨⟨v,⟨y,z,hy,hz,k1,k2,k3,k4,rfl,k5⟩,h5,h6⟩,_,_⟩:=h2;have hw:=(Qbq hz).2.2;obtain ⟨t,ht,h10,h11,h12⟩:=h.toC p a m v ha ⟨y,z,hy,hz,k1,k2,k3,k5⟩ h5 h6 (by rw [hw];exact k4);exact ⟨t.1,h11,hr.step ⟨t,ht,h10,rfl,by rw [h12,hw]⟩⟩
theorem rchK_end {N:Qak}{l lb:List Int}{c a b:Nat}{d:Int}(hb:Qev N l lb c b) (hr:Rch (StK N l lb c) a b d):a=b∧d=0:=by
 cases hr with
 | start=>exact ⟨rfl,rfl⟩
 | step _ h2 =>
  obtain ⟨y,hy,h3,_⟩:=hb;obtain ⟨t1,t2,_⟩:=Qbq hy;have:=h2.2;rw [t1,t2] at this;exact absurd this h3
theorem Qtj.entry (h:Qtj N l lb c x pl L)(hok:Qas N)(hl:l.length=N.vs.length)(hb:lb.length=N.vs.length)(hn:Qdx lb l) (hx:(gateRow N.ar l)[c]?=some x)
 (hE:∀ a m y z,Qev N l lb c a→N.ar[a]?=some y→N.ar[m]?=some z→Qad lb z.1=Qad lb y.2.1→Qad lb z.2.1≠Qad lb y.2.1→∃ v,Qgx N (Qeu lb (Qad lb y.2.1)) a m v)
 {i s k t:Nat} (hi:pl[i]?=some s) (hk:x.2[k]?=some (t:Int)) {v:Int} (hv:Lst (Ras (StF L) (OuF L) i k) v):Qgx N (Qeu l c) s t v:=by
 have hs:=h.at_ s (Zm hi)
 have hinj:∀ (b k':Nat),x.2[k']?=some (b:Int)→k'=k→b=t:=fun b k' h1 e=>by
  subst e;rw [hk] at h1;have:=Yv h1;omega
 have hN:=nested hok hl hb hn hx hE (Zm hk)
 have h1:Lst (Ras (fun a m d=>StC N lb x a m d∧Qev N l lb c a∧Qev N l lb c m) (fun a t' d=>OuC N lb x a t' d∧Qev N l lb c a∧t'=t) s t) v:=by
  refine hv.conv (fun d hd=>?_) (fun d hd=>?_)
  · obtain ⟨p,d1,d2,h1,⟨u,hu,h2,h3⟩,rfl⟩:=hd
    obtain ⟨a,ha,hr⟩:=h.fwd hi h1;obtain ⟨m,v,⟨y,z,hy,hz,k1,k2,k3,k4⟩,h5,h6⟩:=h.snd p a ha u hu
    rcases h6 with ⟨k',h6,h7,h8⟩|⟨_,_,h6,_⟩
    · have hb:=hinj m k' h6 (by omega)
      subst hb;refine ⟨_,⟨a,d1,v,hr,⟨⟨⟨y,z,hy,hz,k1,k2,k3,k4⟩,h5,Zm hk⟩,h.at_ a (Zm ha),rfl⟩,rfl⟩,by omega⟩
    · omega
  · obtain ⟨a,d1,d2,h1,⟨⟨⟨y,z,hy,hz,k1,k2,k3,k4⟩,h5,h6⟩,_,_⟩,rfl⟩:=hd
    obtain ⟨p,ha,hr⟩:=h.bwd hi h1;obtain ⟨u,hu,h7,h8⟩:=h.outC p a t d2 k ha ⟨y,z,hy,hz,k1,k2,k3,k4⟩ h5 hk;exact ⟨_,⟨p,d1,_,hr,⟨u,hu,h7,rfl⟩,rfl⟩,by omega⟩
 have h2:=hN.same (fun p q d _=>Classical.em _) hs h1;refine h2.conv (fun d hd=>?_) (fun d hd=>?_)
 · obtain ⟨p,d1,d2,g1,g2,rfl⟩:=hd
   exact ⟨_,⟨p,d1,d2,g1,g2.1,rfl⟩,Int.le_refl _⟩
 · obtain ⟨p,d1,d2,g1,g2,rfl⟩:=hd
   exact ⟨_,⟨p,d1,d2,g1,⟨g2,rfl⟩,rfl⟩,Int.le_refl _⟩
theorem Qtj.bound (h:Qtj N l lb c x pl L)(hok:Qas N)(hl:l.length=N.vs.length)(hb:lb.length=N.vs.length)(hn:Qdx lb l) (hx:(gateRow N.ar l)[c]?=some x)
 (hE:∀ a m y z,Qev N l lb c a→N.ar[a]?=some y→N.ar[m]?=some z→Qad lb z.1=Qad lb y.2.1→Qad lb z.2.1≠Qad lb y.2.1→∃ v,Qgx N (Qeu lb (Qad lb y.2.1)) a m v) (t:Nat) (ht:(t:Int)∈x.2)
 {i s:Nat} (hi:pl[i]?=some s) (p:Nat) (d:Int) (hr:Rch (StF L) i p d):∃ e,Rch (StF L) i p e∧e≤MB:=by
 have hN:=nested hok hl hb hn hx hE ht;obtain ⟨a,ha,h1⟩:=h.fwd hi hr;obtain ⟨e,h2,h3⟩:=Qje hok a d (hN.up h1);obtain ⟨a',c1,c2,_,g1,g2,g3⟩:=hN.down (fun p q d _=>Classical.em _) (h.at_ s (Zm hi)) h2;obtain ⟨rfl,rfl⟩:=rchK_end (h.at_ a (Zm ha)) g2;obtain ⟨q,hq,h4⟩:=h.bwd hi g1;have:q=p:=(List.getElem?_inj (Zs hq).1 h.nd).1 (hq.trans ha.symm);subst this;exact ⟨c1,h4,by omega⟩
theorem Qtj.fld (h:Qtj N l lb c x pl L)(hok:Qas N):Qqi L pl.length x.2.length 70377334112256:=by
 have key:∀ p,p<pl.length→∀ s∈L p,(s.2.1<0→s.1<pl.length)∧s.2.1<x.2.length∧0≤s.2.2∧s.2.2≤70377334112256:=fun p hp s hs=>by
  obtain ⟨m,v,⟨y,z,hy,hz,k1,k2,k3,k4⟩,h5,h6⟩:=h.snd p _ (Zg hp) s hs;have hv:=(k4.bd hok).resolve_left h5
  rcases h6 with ⟨k,h3,h4,h5⟩|⟨h3,h4,h5,h6,h7⟩
  · have hk:=(Zs h3).1
    exact ⟨fun e=>by omega,by omega,by omega,by omega⟩
  · rw [(Qbq hz).2.2] at h4 h7
    have hw:=(Qdw (hok.arcs z (Zm hz)).w).resolve_left h4;exact ⟨fun _=>(Zs h6).1,by omega,by omega,by omega⟩
 exact Kcr
end
end Go.Proofs.YtdheeddnkdhfeaaGreatDoor
