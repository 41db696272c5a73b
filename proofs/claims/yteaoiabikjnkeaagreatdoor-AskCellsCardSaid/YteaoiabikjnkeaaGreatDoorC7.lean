/- Parts of the proof: InP, InB, Dk, InQ, LeP, Pt, Pa, Gw. -/
import Derived.Test.YteaoiabikjnkeaaGreatDoorC1
import Derived.Test.YteaoiabikjnkeaaGreatDoorC3
import Derived.Test.YteaoiabikjnkeaaGreatDoorC6
namespace Go.Proofs.YteaoiabikjnkeaaGreatDoor
open Go.RowKit Tryz
theorem Qoy.gone {St:Qbu}{s:Nat}{dn hp:Nat→Option Int}{p:Nat}{c:Int}{Gone Gone':Nat→Int→Prop}(h:Qoy St s dn hp p c Gone)(hg:∀ r d,St p r d→Gone' r d→Gone r d):Qoy St s dn hp p c Gone' :=
 ⟨h.dr,h.dm,h.hr,h.off,fun q e r d h1 h2=>by
  rcases h.on q e r d h1 h2 with ⟨h3,h4⟩|h3
  · subst h3;exact .inl ⟨rfl,fun h5=>h4 (hg r d h2 h5)⟩
  · exact .inr h3,h.st,h.at_⟩
def StN (N:Qaq)(mk:List Bool)(s na:Nat):Qbu:=fun a b d=>∃ y,N.ar[b]?=some y∧Qba N (if a=na then s else a) b≠1152921504606846976∧y.2.2≠1152921504606846976 ∧
 mk.getD y.1.toNat false=true∧mk.getD y.2.1.toNat false=true∧d=Qba N (if a=na then s else a) b+y.2.2
attribute [local go_sem ↓] Go.wp_at_zero Go.wp_at_succ
theorem Qdz {u:Int}(h:wOk u=true):u=1152921504606846976∨(0≤u∧u≤2147483648):=by
 unfold wOk at h;simp only [Bool.or_eq_true,Bool.and_eq_true,decide_eq_true_eq] at h;omega
theorem getD_or (l:List Int)(k:Nat)(d:Int):l.getD k d=d∨l.getD k d∈l:=by
 rcases Nat.lt_or_ge k l.length with h|h
 · exact .inr (Zm (Qbm d h))
 · exact .inl (by rw [List.getD_eq_getElem?_getD,List.getElem?_eq_none h];rfl)
theorem Qef {N:Qaq}(h:Qaw N)(a b:Nat):Qba N a b=1152921504606846976∨(0≤Qba N a b∧Qba N a b≤2147483648):=by
 unfold Qba
 split
 · split
   · split
     · split
       · rename_i t ht
         rcases getD_or t.costs ((Qgo N.ar a _).1.toNat*t.outs.toNat+(Qgo N.ar b _).2.toNat) 1152921504606846976 with h1|h1
         · exact .inl h1
         · exact Qdz ((h.tabs t (Zm ht)).ok _ h1)
       · exact .inl rfl
     · exact .inl rfl
   · exact .inl rfl
 · exact .inl rfl
end Go.Proofs.YteaoiabikjnkeaaGreatDoor
namespace Go.Proofs.YteaoiabikjnkeaaGreatDoor
def Qeb (l:List Int)(c:Int):List Bool:=l.map (fun z=>z == c)
def InK (St:Qbu)(s:Nat)(D:Int)(k q:Nat):Prop:=∃ e,Rch St s q e∧e≤(k:Int)*D
theorem InK.mono {St:Qbu}{s:Nat}{D:Int}(hD:0≤D){k q:Nat}(h:InK St s D k q):InK St s D (k+1) q:=by
 obtain ⟨e,h1,h2⟩:=h;refine ⟨e,h1,?_⟩
 push_cast
 rw [Int.add_mul,Int.one_mul];omega
theorem Qjc {α:Type}{p q:α→Bool}:∀ {l:List α},(∀ x∈l,p x=true→q x=true)→(∃ x∈l,p x=false∧q x=true)→l.countP p<l.countP q
 | [],_,h=>by obtain ⟨x,hx,_⟩:=h;cases hx
 | y::l,h1,h2=>by
  have hle:l.countP p≤l.countP q:=List.countP_mono_left (fun x hx=>h1 x (by simp [hx]))
  by_cases hy:p y=true
  · have hq:=h1 y (by simp) hy
    obtain ⟨x,hx,hp,hx2⟩:=h2
    rcases List.mem_cons.1 hx with rfl|hx
    · rw [hy] at hp;cases hp
    · have:=Qjc (fun z hz=>h1 z (by simp [hz])) ⟨x,hx,hp,hx2⟩
      simp only [List.countP_cons,hy,hq,if_pos];omega
  · have hy':p y=false:=by simpa using hy
    by_cases hq:q y=true
    · simp only [List.countP_cons,hy',hq]
      simp;omega
    · obtain ⟨x,hx,hp,hx2⟩:=h2
      rcases List.mem_cons.1 hx with rfl|hx
      · exact absurd hx2 hq
      · have:=Qjc (fun z hz=>h1 z (by simp [hz])) ⟨x,hx,hp,hx2⟩
        have hq':q y=false:=by simpa using hq
        simp only [List.countP_cons,hy',hq']
        simpa using this
open Classical in
theorem InK.stable (St:Qbu)(s:Nat){D:Int}(hD:0≤D)(n:Nat):∃ k,k≤n∧∀ q,q<n→InK St s D (k+1) q→InK St s D k q:=by
 apply Classical.byContradiction
 intro hno
 have hstep:∀ k,k≤n→(List.range n).countP (fun q=>decide (InK St s D k q))<(List.range n).countP (fun q=>decide (InK St s D (k+1) q)):=fun k hk=>by
  have h1:¬∀ q,q<n→InK St s D (k+1) q→InK St s D k q:=fun h=>hno ⟨k,hk,h⟩
  have ⟨q,h2⟩:=Classical.not_forall.1 h1;have ⟨hq,h3⟩:=Classical.not_imp.1 h2;have ⟨h4,h5⟩:=Classical.not_imp.1 h3;refine Qjc (fun x _ hx=>?_) ⟨q,by simpa using hq,by simpa using h5,by simpa using h4⟩;have:=InK.mono hD (of_decide_eq_true hx)
  simpa using this
 have hall:∀ k,k≤n+1→k≤(List.range n).countP (fun q=>decide (InK St s D k q)):=fun k=>by
  induction k with
  | zero=>intro _;exact Nat.zero_le _
  | succ k ih=>intro hk;have:=ih (by omega);have:=hstep k (by omega);omega
 have h1:=hall (n+1) (Zn _);have h2:=List.countP_le_length (p:=fun q=>decide (InK St s D (n+1) q)) (l:=List.range n);rw [List.length_range] at h2;omega
theorem Rch.bound {St:Qbu}{n:Nat}{D:Int}(hD:0≤D)(hst:∀ p q d,St p q d→q<n∧d≤D){s p:Nat}{c:Int}(h:Rch St s p c):∃ e,Rch St s p e∧e≤(n:Int)*D:=by
 obtain ⟨k,hk,hs⟩:=InK.stable St s hD n
 have hin:InK St s D k p:=by
  induction h with
  | start=>exact ⟨0,.start,Int.mul_nonneg (by omega) hD⟩
  | step h1 h2 ih =>
   obtain ⟨e,h3,h4⟩:=ih;have:=hst _ _ _ h2;refine hs _ this.1 ⟨_,h3.step h2,?_⟩
   push_cast
   rw [Int.add_mul,Int.one_mul];omega
 obtain ⟨e,h1,h2⟩:=hin;exact ⟨e,h1,Int.le_trans h2 (Int.mul_le_mul_of_nonneg_right (by omega) hD)⟩
theorem Dij.bd {St:Qbu}{s:Nat}{dn hp:Nat→Option Int}(h:Dij St s dn hp){M:Int}(hM:∀ p c,Rch St s p c→∃ e,Rch St s p e∧e≤M){p:Nat}{c:Int}(hd:dn p=some c):c≤M:=by
 obtain ⟨e,h1,h2⟩:=hM p c (h.dr p c hd);have:=h.dm p c hd e h1;omega
theorem Dij.bdTake {St:Qbu}{s:Nat}{dn hp:Nat→Option Int}(h:Dij St s dn hp)(h0:∀ p q d,St p q d→0≤d){M:Int}(hM:∀ p c,Rch St s p c→∃ e,Rch St s p e∧e≤M){p:Nat}{c:Int}(hp1:hp p=some c)(hm:∀ q e,hp q=some e→c≤e):c≤M:=by
 obtain ⟨e,h1,h2⟩:=hM p c (h.hr p c hp1);have:=h.least h0 hp1 hm e h1;omega
theorem Dij.init (St:Qbu)(s:Nat){hp:Nat→Option Int}(h:∀ q,hp q=if q=s then some 0 else none):Dij St s (fun _=>none) hp where
 dr:=fun p c h=>by cases h
 dm:=fun p c h=>by cases h
 hr:=fun p c hc=>by
  rw [h] at hc
  by_cases e:p=s
  · subst e;simp at hc;subst hc;exact .start
  · simp [e] at hc
 off:=fun p c h=>by cases h
 on:=fun p c q d h=>by cases h
 st:=.inr ⟨0,by rw [h,if_pos rfl],Int.le_refl _⟩
theorem OutB.next {Out:Qbu}{dn:Nat→Option Int}{k p:Nat}{b b' c:Int} (h:OutB Out dn k b (fun _=>False)) (hp:dn p=none) (hle:b'≤b) (hout:∀ d,Out p k d→b'≤c+d) (hhit:b'=b∨∃ d,Out p k d∧b'=c+d) :
 OutB Out (fun q=>if q=p then some c else dn q) k b' (fun _=>False) where
 lo:=fun q e d hq ho _=>by
  by_cases e1:q=p
  · subst e1;simp at hq;subst hq;exact hout d ho
  · simp [e1] at hq;have:=h.lo q e d hq ho (fun h=>h);omega
 hit:=by
  rcases hhit with e|⟨d,h1,h2⟩
  · subst e
    rcases h.hit with h1|⟨q,x,d,h1,h2,h3⟩
    · exact .inl h1
    · exact .inr ⟨q,x,d,by rw [if_neg (fun e=>by rw [e,hp] at h1;cases h1)];exact h1,h2,h3⟩
  · exact .inr ⟨p,c,d,by simp,h1,h2⟩
end Go.Proofs.YteaoiabikjnkeaaGreatDoor
namespace Go.Proofs.YteaoiabikjnkeaaGreatDoor
open Go.RowKit Tryz
theorem Qco {N:Qaq}{a b:Nat}(h:Qba N a b≠1152921504606846976):∃ x y,N.ar[a]?=some x∧N.ar[b]?=some y∧x.2.1=y.1:=by
 unfold Qba at h
 split at h
 · rename_i x y hx hy
   by_cases e:x.2.1=y.1
   · exact ⟨x,y,hx,hy,e⟩
   · rw [if_neg e] at h;exact absurd rfl h
 · exact absurd rfl h
def StA (N:Qaq)(mk:List Bool):Qbu:=fun a b d=>∃ y,N.ar[b]?=some y∧Qba N a b≠1152921504606846976∧y.2.2≠1152921504606846976 ∧
 mk.getD y.1.toNat false=true∧mk.getD y.2.1.toNat false=true∧d=Qba N a b+y.2.2
def OuA (N:Qaq):Qbu:=fun a t d=>Qba N a t≠1152921504606846976∧d=Qba N a t
def Qgf (N:Qaq)(mk:List Bool)(s t:Nat)(v:Int):Prop:=Lst (Qvm (StA N mk) (OuA N) s t) v
theorem StA.lt {N:Qaq}{mk:List Bool}{a b:Nat}{d:Int}(h:StA N mk a b d):b<N.ar.length:=by
 obtain ⟨y,hy,_⟩:=h;exact (Zs hy).1
theorem StN.stA {N:Qaq}{mk:List Bool}{s na a b:Nat}{d:Int}(h:StN N mk s na a b d):StA N mk (if a=na then s else a) b d:=h
theorem StA.bd {N:Qaq}(hok:Qaw N){mk:List Bool}{a b:Nat}{d:Int}(h:StA N mk a b d):0≤d∧d≤4294967296:=by
 obtain ⟨y,hy,h1,h2,_,_,rfl⟩:=h;have h3:=(Qef hok a b).resolve_left h1;have h4:=(Qdz (hok.arcs y (Zm hy)).w).resolve_left h2;omega
theorem OuA.bd {N:Qaq}(hok:Qaw N){a t:Nat}{d:Int}(h:OuA N a t d):0≤d∧d≤2147483648:=by
 obtain ⟨h1,rfl⟩:=h;exact (Qef hok a t).resolve_left h1
def MB:Int:=70373039144960
theorem rchN_bd {N:Qaq}(hok:Qaw N){mk:List Bool}{s:Nat}(p:Nat)(c:Int) (h:Rch (StN N mk s N.ar.length) N.ar.length p c):∃ e,Rch (StN N mk s N.ar.length) N.ar.length p e∧e≤MB:=by
 obtain ⟨e,h1,h2⟩:=Rch.bound (n:=N.ar.length) (D:=4294967296) (by omega) (fun p q d h=>⟨(StN.stA h).lt,((StN.stA h).bd hok).2⟩) h;refine ⟨e,h1,?_⟩;have:=hok.la;unfold MB;omega
theorem Qhr {N:Qaq}(hok:Qaw N){mk:List Bool}{s:Nat}(p:Nat)(c:Int) (h:Rch (StA N mk) s p c):∃ e,Rch (StA N mk) s p e∧e≤MB:=by
 obtain ⟨e,h1,h2⟩:=Rch.bound (n:=N.ar.length) (D:=4294967296) (by omega) (fun p q d h=>⟨h.lt,(h.bd hok).2⟩) h;refine ⟨e,h1,?_⟩;have:=hok.la;unfold MB;omega
theorem Qgf.bd {N:Qaq}(hok:Qaw N){mk:List Bool}{s t:Nat}{v:Int}(h:Qgf N mk s t v):v=1152921504606846976∨(0≤v∧v≤70375186628608):=by
 rcases h with ⟨⟨p,c,d,h1,h2,rfl⟩,hm⟩|⟨h1,_⟩
 · right
   have hc:=h1.pos (fun p q d h=>(h.bd hok).1);have hd:=h2.bd hok;obtain ⟨e,h3,h4⟩:=Qhr hok p c h1;have:=hm (e+d) ⟨p,e,d,h3,h2,rfl⟩;unfold MB at h4;omega
 · exact .inl h1
theorem Qqe {bs:List Nat}{l:List Int}(h:nis bs=l)(b:Nat):b∈bs↔(b:Int)∈l:=by
 rw [←h];unfold nis
 constructor
 · intro hb;exact List.mem_map.2 ⟨b,hb,rfl⟩
 · intro hb
   obtain ⟨c,hc,e⟩:=List.mem_map.1 hb;have:c=b:=by omega
   rwa [←this]
theorem outs_mem {N:Qaq}{a b:Nat}{x:Tri} (hx:N.ar[a]?=some x) {bs:List Nat} (hbs:nis bs=idx (·.1) N.ar x.2.1) (h:Qba N a b≠1152921504606846976):b∈bs:=by
 obtain ⟨x',y,h1,h2,h3⟩:=Qco h;rw [hx] at h1
 cases h1
 exact (Qqe hbs b).2 (Qhu.2 ⟨b,y,rfl,h2,h3.symm⟩)
theorem getD_rep (n q:Nat):(List.replicate n false).getD q false=false:=by
 rw [List.getD_eq_getElem?_getD,List.getElem?_replicate]
 split <;> rfl
end Go.Proofs.YteaoiabikjnkeaaGreatDoor
namespace Go.Proofs.YteaoiabikjnkeaaGreatDoor
abbrev Stp:=Nat×Int×Int
def StF (L:Nat→List Stp):Qbu:=fun p q d=>∃ s∈L p,s.2.1<0∧s.1=q∧s.2.2=d
def OuF (L:Nat→List Stp):Qbu:=fun p k d=>∃ s∈L p,s.2.1=(k:Int)∧s.2.2=d
def Qci (dn:List Bool)(c:Int) (st:List Int×(Nat→Option Int)) (s:Stp):List Int×(Nat→Option Int) :=
 if 0≤s.2.1 then (st.1.set s.2.1.toNat (min (st.1.getD s.2.1.toNat 0) (c+s.2.2)),st.2)
 else (st.1,if dn.getD s.1 false=false then Qif st.2 s.1 (c+s.2.2) else st.2)
structure Qnb (L:Nat→List Stp) (n outs:Nat) (D:Int):Prop where
 to_:∀ p,p<n→∀ s∈L p,s.2.1<0→s.1<n
 out:∀ p,p<n→∀ s∈L p,s.2.1<outs
 bd:∀ p,p<n→∀ s∈L p,0≤s.2.2∧s.2.2≤D
theorem Qrp {L:Nat→List Stp}{n:Nat}{dn:List Bool}{s p:Nat}{dnf:Nat→Option Int}{c:Int} (hdn:∀ q,q<n→(dn.getD q false=true↔dnf q≠none)) :
 ∀ (l:List Stp) (st:List Int×(Nat→Option Int)) (Gone:Nat→Int→Prop),(∀ x∈l,x∈L p∧(x.2.1<0→x.1<n))→Qoy (StF L) s dnf st.2 p c Gone →
  Qoy (StF L) s dnf (l.foldl (Qci dn c) st).2 p c (fun r e=>Gone r e∨∃ x∈l,x.2.1<0∧x.1=r∧x.2.2=e)
 | [],st,Gone,_,h=>h.gone (fun r d _ hg=>hg.elim id (fun ⟨_,e,_⟩=>by cases e))
 | x::l,(row,hp),Gone,hb,h=>by
  have hx:=hb x (by simp)
  have h1:Qoy (StF L) s dnf (Qci dn c (row,hp) x).2 p c (fun r e=>Gone r e∨(x.2.1<0∧x.1=r∧x.2.2=e)):=by
   unfold Qci
   by_cases ho:0≤x.2.1
   · simp only [if_pos ho]
     exact h.gone (fun r d _ hg=>hg.elim id (fun e=>by omega))
   · simp only [if_neg ho]
     have hst:StF L p x.1 x.2.2:=⟨x,hx.1,by omega,rfl,rfl⟩
     by_cases h5:dn.getD x.1 false=true
     · have hne:=(hdn x.1 (hx.2 (by omega))).1 h5
       rw [if_neg (by rw [h5];simp)];exact (h.put hst (.inl ⟨hne,fun e he=>h.dm x.1 e he _ ((h.dr p c h.at_).step hst),rfl⟩)).gone (fun r d _ hg=>hg.elim .inl (fun e=>.inr ⟨e.2.1.symm,e.2.2.symm⟩))
     · have h6:dn.getD x.1 false=false:=by simpa using h5
       rw [if_pos h6]
       have hno:dnf x.1=none:=by
        cases hd:dnf x.1 with
        | none=>rfl
        | some e=>exact absurd ((hdn x.1 (hx.2 (by omega))).2 (by rw [hd];simp)) h5
       refine (h.put (hp':=Qif hp x.1 (c+x.2.2)) hst (.inr ⟨hno,fun r hr=>by unfold Qif;rw [if_neg hr],?_⟩)).gone (fun r d _ hg=>hg.elim .inl (fun e=>.inr ⟨e.2.1.symm,e.2.2.symm⟩));unfold Qif;rw [if_pos rfl]
       dsimp only
       cases hv:hp x.1 with
       | none=>exact .inr ⟨fun e he=>(by cases he),rfl⟩
       | some z =>
        by_cases hz:z≤c+x.2.2
        · exact .inl ⟨z,rfl,hz,by simp [hz]⟩
        · exact .inr ⟨fun e he=>(by cases he;omega),by simp [hz]⟩
  have h2:=Qrp hdn l _ _ (fun q hq=>hb q (by simp [hq])) h1;refine h2.gone (fun r d _ hg=>?_)
  rcases hg with hg|⟨y,hy,hg⟩
  · exact .inl (.inl hg)
  · rcases List.mem_cons.1 hy with e|e
    · subst e;exact .inl (.inr hg)
    · exact .inr ⟨y,e,hg⟩
theorem Qkc {dn:List Bool}{c:Int}:∀ (l:List Stp) (st:List Int×(Nat→Option Int)),(l.foldl (Qci dn c) st).1.length=st.1.length
 | [],st=>rfl
 | x::l,st=>by
  rw [List.foldl_cons,Qkc l];unfold Qci
  split <;> simp
theorem Qsh {dn:List Bool}{c D B:Int}(hc:c+D≤B):∀ (l:List Stp) (st:List Int×(Nat→Option Int)),(∀ x∈l,x.2.2≤D)→(∀ q e,st.2 q=some e→e≤B) →
 ∀ q e,(l.foldl (Qci dn c) st).2 q=some e→e≤B
 | [],st,_,h=>h
 | x::l,(row,hp),hb,h=>by
  have hx:=hb x (by simp);refine Qsh hc l _ (fun y hy=>hb y (by simp [hy])) ?_;intro q e hq;unfold Qci at hq
  split at hq
  · exact h q e hq
  · simp only at hq
    split at hq
    · unfold Qif at hq
      by_cases e1:q=x.1
      · rw [if_pos e1] at hq
        split at hq
        · cases hq;omega
        · rename_i z hz
          have:=h x.1 z hz
          split at hq <;> (cases hq;omega)
      · rw [if_neg e1] at hq;exact h q e hq
    · exact h q e hq
theorem Qnz {dn:List Bool}{c:Int}(k:Nat):∀ (l:List Stp) (st:List Int×(Nat→Option Int)),k<st.1.length →
 (l.foldl (Qci dn c) st).1.getD k 0≤st.1.getD k 0∧(∀ x∈l,x.2.1=(k:Int)→(l.foldl (Qci dn c) st).1.getD k 0≤c+x.2.2) ∧
  ((l.foldl (Qci dn c) st).1.getD k 0=st.1.getD k 0∨∃ x∈l,x.2.1=(k:Int)∧(l.foldl (Qci dn c) st).1.getD k 0=c+x.2.2)
 | [],st,_=>⟨Int.le_refl _,fun x hx=>(by cases hx),.inl rfl⟩
 | x::l,st,hk=>by
  have hl:(Qci dn c st x).1.length=st.1.length:=by unfold Qci;split <;> simp
  obtain ⟨h1,h2,h3⟩:=Qnz k l (Qci dn c st x) (by rw [hl];exact hk);rw [List.foldl_cons]
  have hs:(Qci dn c st x).1.getD k 0=if x.2.1=(k:Int) then min (st.1.getD k 0) (c+x.2.2) else st.1.getD k 0:=by
   unfold Qci
   by_cases ho:0≤x.2.1
   · simp only [if_pos ho]
     by_cases e:x.2.1=(k:Int)
     · rw [if_pos e,e,Int.toNat_natCast]
       simp [List.getD_eq_getElem?_getD,hk]
     · rw [if_neg e]
       have:¬x.2.1.toNat=k:=by omega
       simp [List.getD_eq_getElem?_getD,this]
   · simp only [if_neg ho]
     rw [if_neg (by omega)]
  generalize hz:(Qci dn c st x).1.getD k 0=z at h1 h3 hs;generalize hy:(l.foldl (Qci dn c) (Qci dn c st x)).1.getD k 0=y at h1 h2 h3 ⊢;refine ⟨by split at hs <;> omega,fun u hu e=>?_,?_⟩
  · rcases List.mem_cons.1 hu with rfl|hu
    · rw [if_pos e] at hs;omega
    · exact h2 u hu e
  · rcases h3 with h3|⟨u,hu,h4,h5⟩
    · by_cases e:x.2.1=(k:Int)
      · rw [if_pos e] at hs
        by_cases h6:st.1.getD k 0≤c+x.2.2
        · exact .inl (by omega)
        · exact .inr ⟨x,by simp,e,by omega⟩
      · rw [if_neg e] at hs;exact .inl (by omega)
    · exact .inr ⟨u,by simp [hu],h4,h5⟩
structure LeI (L:Nat→List Stp) (n outs start:Nat) (B:Int) (dnf hp:Nat→Option Int) (dn:List Bool) (row:List Int):Prop where
 dij:Dij (StF L) start dnf hp
 fl:∀ q,q<n→(dn.getD q false=true↔dnf q≠none)
 dlt:∀ q,n≤q→dnf q=none
 bd:∀ q e,hp q=some e→e≤B
 best:∀ k,k<outs→OutB (OuF L) dnf k (row.getD k 0) (fun _=>False)
 ld:dn.length=n
 lr:row.length=outs
theorem LeI.init {L:Nat→List Stp}{n outs start:Nat}{B:Int}{hp:Nat→Option Int}{row:List Int}(hB:0≤B)(h:∀ q,hp q=if q=start then some 0 else none)(hr:row=List.replicate outs 1152921504606846976):LeI L n outs start B (fun _=>none) hp (List.replicate n false) row:=by
 subst hr;refine ⟨Dij.init _ _ h,fun q _=>?_,fun q _=>rfl,fun q e hq=>?_,fun k hk=>⟨fun p c d h=>(by cases h),.inl ?_⟩,by simp,by simp⟩
 · rw [List.getD_eq_getElem?_getD,List.getElem?_replicate]
   split <;> simp
 · rw [h] at hq
   split at hq
   · cases hq;exact hB
   · cases hq
 · rw [List.getD_eq_getElem?_getD,List.getElem?_replicate,if_pos hk]
   rfl
theorem StF.bd {L:Nat→List Stp}{n outs:Nat}{D:Int}(h:Qnb L n outs D) (he:∀ p,n≤p→L p=[]) {p q:Nat} {d:Int} (hs:StF L p q d):0≤d∧d≤D∧p<n∧q<n:=by
 obtain ⟨s,h1,h2,rfl,rfl⟩:=hs
 have hp:p<n:=by
  rcases Nat.lt_or_ge p n with h3|h3
  · exact h3
  · rw [he p h3] at h1;cases h1
 exact ⟨(h.bd p hp s h1).1,(h.bd p hp s h1).2,hp,h.to_ p hp s h1 h2⟩
theorem OuF.bd {L:Nat→List Stp}{n outs:Nat}{D:Int}(h:Qnb L n outs D) (he:∀ p,n≤p→L p=[]) {p k:Nat} {d:Int} (hs:OuF L p k d):0≤d∧d≤D:=by
 obtain ⟨s,h1,h2,rfl⟩:=hs
 have hp:p<n:=by
  rcases Nat.lt_or_ge p n with h3|h3
  · exact h3
  · rw [he p h3] at h1;cases h1
 exact h.bd p hp s h1
theorem LeI.next {L:Nat→List Stp}{n outs start p:Nat}{M D B c:Int}{dnf hp:Nat→Option Int}{dn:List Bool}{row:List Int}(h:LeI L n outs start B dnf hp dn row)(hf:Qnb L n outs D) (he:∀ p,n≤p→L p=[])
 (hM:∀ p c,Rch (StF L) start p c→∃ e,Rch (StF L) start p e∧e≤M) (hB:M+D≤B) (hpn:p<n) (hp1:hp p=some c) (hm:∀ q e,hp q=some e→c≤e) :
 LeI L n outs start B (fun q=>if q=p then some c else dnf q) ((L p).foldl (Qci (dn.set p true) c) (row,fun q=>if q=p then none else hp q)).2 (dn.set p true) ((L p).foldl (Qci (dn.set p true) c) (row,fun q=>if q=p then none else hp q)).1:=by
 have h0:∀ p q d,StF L p q d→0≤d:=fun p q d hs=>(StF.bd hf he hs).1
 have hno:dnf p=none:=by
  cases hd:dnf p with
  | none=>rfl
  | some e=>have:=h.dij.off p e hd;rw [hp1] at this;cases this
 have hfl:∀ q,q<n→((dn.set p true).getD q false=true↔(fun q=>if q=p then some c else dnf q) q≠none):=fun q hq=>by
  by_cases e:q=p
  · subst e
    have:q<dn.length:=by rw [h.ld];exact hq
    simp [List.getD_eq_getElem?_getD,this]
  · have e':¬p=q:=fun x=>e x.symm
    have:=h.fl q hq
    simpa [List.getD_eq_getElem?_getD,List.getElem?_set,e,e'] using this
 have hc:c≤M:=h.dij.bdTake h0 hM hp1 hm;have hdj:=Qrp (L:=L) (n:=n) hfl (L p) (row,fun q=>if q=p then none else hp q) _ (fun x hx=>⟨hx,fun h1=>hf.to_ p hpn x hx h1⟩) (h.dij.take h0 hp1 hm);refine ⟨hdj.done (fun q d ⟨s,h1,h2,h3,h4⟩=>.inr ⟨s,h1,h2,h3,h4⟩),hfl,fun q hq=>?_,Qsh (D:=D) (by omega) _ _ (fun x hx=>(hf.bd p hpn x hx).2) (fun q e hq=>?_),fun k hk=>?_,by rw [List.length_set];exact h.ld,by rw [Qkc];exact h.lr⟩
 · have:q≠p:=by omega
   simp [this,h.dlt q hq]
 · by_cases e1:q=p
   · simp [e1] at hq
   · simp [e1] at hq;exact h.bd q e hq
 · obtain ⟨h1,h2,h3⟩:=Qnz (dn:=dn.set p true) (c:=c) k (L p) (row,fun q=>if q=p then none else hp q) (by rw [h.lr];exact hk)
   refine (h.best k hk).next hno h1 (fun d ⟨s,h4,h5,h6⟩=>?_) (h3.elim .inl (fun ⟨s,h4,h5,h6⟩=>.inr ⟨_,⟨s,h4,h5,rfl⟩,h6⟩));subst h6;exact h2 s h4 h5
theorem LeI.done {L:Nat→List Stp}{n outs start:Nat}{M D B:Int}{dnf hp:Nat→Option Int}{dn:List Bool}{row:List Int}(h:LeI L n outs start B dnf hp dn row)(hf:Qnb L n outs D) (he:∀ p,n≤p→L p=[])
 (hM:∀ p c,Rch (StF L) start p c→∃ e,Rch (StF L) start p e∧e≤M) (hB:M+D<1152921504606846976) (hn:∀ q,hp q=none):∀ k,k<outs→Lst (Qvm (StF L) (OuF L) start k) (row.getD k 0):=fun k hk =>
 OutB.least h.dij (fun p q d hs=>(StF.bd hf he hs).1) hn (h.best k hk) (fun p c d h1 h2=>by
  have h3:=h.dij.bd hM h1;have h4:=OuF.bd hf he h2;unfold INF;omega)
end Go.Proofs.YteaoiabikjnkeaaGreatDoor
namespace Go.Proofs.YteaoiabikjnkeaaGreatDoor
open Go.RowKit Tryz
theorem Qlp {P:List Int→Prop} (h0:P []) (hs:∀ l x,P l→P (l ++[x])) (l:List Int):P l:=by
 have h:∀ l:List Int,P l.reverse:=by
  intro l
  induction l with
  | nil=>exact h0
  | cons x l ih=>rw [List.reverse_cons];exact hs _ _ ih
 have:=h l.reverse
 rwa [List.reverse_reverse] at this
def Qas (l:List Int):Int:=l.foldl (fun n x=>max n (x+1)) 0
theorem Qho (l:List Int)(x:Int):Qas (l ++[x])=max (Qas l) (x+1):=by simp [Qas]
theorem Qcb:∀ l:List Int,0≤Qas l:=by
 refine Qlp (by simp [Qas]) (fun l x ih=>by rw [Qho];omega)
theorem Qrt {l:List Int}{x:Int}:x∈l→x<Qas l:=by
 revert x
 refine Qlp (P:=fun l=>∀ {x:Int},x∈l→x<Qas l) (fun h=>by cases h) (fun l y ih=>?_) l
 · intro x h
   rw [Qho]
   rcases List.mem_append.1 h with h|h
   · have:=ih h;omega
   · rw [List.mem_singleton.1 h];omega
theorem Qwy {l:List Int}:0<Qas l→∃ x∈l,Qas l=x+1:=by
 refine Qlp (P:=fun l=>0<Qas l→∃ x∈l,Qas l=x+1) (fun h=>by simp [Qas] at h) (fun l y ih=>?_) l
 · intro h
   rw [Qho] at h ⊢
   by_cases h1:Qas l≤y+1
   · exact ⟨y,by simp,by omega⟩
   · have h0:=Qcb l
     obtain ⟨x,hx,e⟩:=ih (by omega);exact ⟨x,List.mem_append_left _ hx,by omega⟩
theorem Qbx {l:List Int}{n:Int}(h:∀ x∈l,x<n)(hn:0≤n):Qas l≤n:=by
 by_cases h0:0<Qas l
 · obtain ⟨x,hx,e⟩:=Qwy h0
   have:=h x hx;omega
 · omega
structure Qer (n:Nat) (l:List Int):Prop where
 len:l.length=n
 lo:∀ x∈l,0≤x
 hi:∀ x∈l,x<n
 all:∀ c:Nat,(c:Int)<Qas l→(c:Int)∈l
def Qdo (p l:List Int):Prop:=∀ (a b:Nat) (x y u v:Int),p[a]?=some x→p[b]?=some y→l[a]?=some u→l[b]?=some v→x≤y→u≤v
structure Qay (n:Nat) (ls:List (List Int)):Prop where
 l1:1≤ls.length
 l6:ls.length≤6
 lvl:∀ l∈ls,Qer n l
 nest:∀ (i:Nat) p l,ls[i]?=some p→ls[i+1]?=some l→Qdo p l
noncomputable def Qel (n:Nat) (p:Option (List Int)) (l:List Int):Int:=by
 classical exact if l.length≠n then 1 else if Qer n l∧∀ q,p=some q→Qdo q l then 0 else 10
attribute [local go_sem ↓] Go.wp_at_zero Go.wp_at_succ
theorem Qhw (Q:Option Addr)(L cq i:Nat) (ls:List (List Int)) (l:List Int) (w:World) (h:RdT w Q L ls) (hl:ls[i]?=some l) (hL:L≤1000000) :
 Calls prog 219 #[.agg #[.slice Q L cq],.int .i64 ((i:Int)+1)] w fun e w'=>∃ A n c,e=.returned (.slice A n c)∧RdI w A n l∧n≤c∧c≤9223372036854775807∧Below w.heap.size w w':=by
 have hi:i<L:=by rw [←h.1];exact (Zs hl).1
 obtain ⟨b,o,A,n,c,l',rfl,hl',hc,hr,q1,q2⟩:=h.at_ hi;rw [hl] at hl'
 cases hl'
 have HR:=Zh hr;have i1:(0:Int)≤(i:Int):=by omega
 have i2:(i:Int)<(L:Int):=by omega
 have i3:¬((i:Int)+1<1):=by omega
 have i4:¬((i:Int)+1 > (L:Int)):=by omega
 have i5:(i:Int)+1-1=(i:Int):=by omega
 have hca:=fun ob=>Zc (show Below w.heap.size w (w.alloc ob) from Qah) (Zn _) hc
 clear h hl hr hc
 go_enter func219,ntmps219
 go_wp2
 go_ret
 exact ⟨_,_,_,rfl,HR.out,q1,q2,Qah⟩
theorem row_ok (Q:Option Addr)(L cq i:Nat) (ls:List (List Int)) (l:List Int) (w:World) (h:RdT w Q L ls) (hl:ls[i]?=some l) (hL:L≤1000000) :
 Calls prog 220 #[.agg #[.slice Q L cq],.int .i64 ((i:Int)+1)] w fun e w'=>∃ A n c,e=.returned (.slice A n c)∧RdI w A n l∧n≤c∧c≤9223372036854775807∧Below w.heap.size w w':=by
 have hi:i<L:=by rw [←h.1];exact (Zs hl).1
 obtain ⟨b,o,A,n,c,l',rfl,hl',hc,hr,q1,q2⟩:=h.at_ hi;rw [hl] at hl'
 cases hl'
 have HR:=Zh hr;have i1:(0:Int)≤(i:Int):=by omega
 have i2:(i:Int)<(L:Int):=by omega
 have i3:¬((i:Int)+1<1):=by omega
 have i4:¬((i:Int)+1 > (L:Int)):=by omega
 have i5:(i:Int)+1-1=(i:Int):=by omega
 have hca:=fun ob=>Zc (show Below w.heap.size w (w.alloc ob) from Qah) (Zn _) hc
 clear h hl hr hc
 go_enter func220,ntmps220
 go_wp2
 go_ret
 exact ⟨_,_,_,rfl,HR.out,q1,q2,Qah⟩
theorem Qfx {l:List Int}{k:Nat}{x:Int} (h:l[k]?=some x):Qas (l.take (k+1))=max (Qas (l.take k)) (x+1):=by
 rw [List.take_succ_eq_append_getElem (Zs h).1,(Zs h).2,Qho]
set_option maxHeartbeats 1000000 in
theorem count_ok (Q:Option Addr)(L cq i:Nat) (ls:List (List Int)) (l:List Int) (w:World) (h:RdT w Q L ls) (hl:ls[i]?=some l) (hL:L≤1000000) (hb:∀ x∈l,0≤x∧x≤1000000) :
 Calls prog 209 #[.agg #[.slice Q L cq],.int .i64 ((i:Int)+1)] w fun e w'=>e=.returned (.int .i64 (Qas l))∧Below w.heap.size w w':=by
 have HN:=Zh (show ∀ V,Below w.heap.size w V→Calls prog 219 #[.agg #[.slice Q L cq],.int .i64 ((i:Int)+1)] V fun e w'=>∃ A n c,e=.returned (.slice A n c)∧RdI V A n l∧n≤c∧c≤9223372036854775807∧Below V.heap.size V w' from fun V hV=>Qhw Q L cq i ls l V (h.below hV) hl hL)
 have HB:=Zh hb;clear h hl hb
 go_enter func209,ntmps209
 go_wp2_with fail
 (refine Qad ?_;intro w1 hw1)
 have hb1:Below w.heap.size w w1:=by rw [hw1];exact Qah
 clear hw1;with_reducible refine (HN.out w1 hb1).mono ?_
 rintro e w2 ⟨A,n,c,rfl,hr,q1,q2,hb2⟩;have hr2:=hr.below hb2;have HLEN:=Zh hr.1;have hbw2:=Zb hb1 hb2;clear hr
 go_wp2_with fail
 go_loop [5,12] (fun m q=>∃ k:Nat,k≤n∧q=.int .i64 k∧m=.int .i64 (Qas (l.take k))) (fun _ q=>n-(intOf q).toNat)
 case atStart=>exact ⟨0,Nat.zero_le _,rfl,rfl⟩
 case round =>
  obtain ⟨k,hk,rfl,rfl⟩:=hrel
  by_cases hlt:k<n
  · obtain ⟨b,o,x,rfl,hx,hc⟩:=hr2.at_ hlt
    have hxb:=HB.out x (Zm hx);have HNX:=Zh (Qfx hx);have i1:(0:Int)≤(k:Int):=by omega
    have i2:(k:Int)<(n:Int):=by omega
    clear hx;generalize Qas (l.take k)=m at *
    by_cases hge:x ≥ m
    · go_wp2_with fail
      go_round
      case rel=>exact ⟨k+1,by omega,by go_num,by rw [HNX.out,show max m (x+1)=x+1 by omega]⟩
      case measure=>simp [intOf];omega
    · go_wp2_with fail
      go_round
      case rel=>exact ⟨k+1,by omega,by go_num,by rw [HNX.out,show max m (x+1)=m by omega]⟩
      case measure=>simp [intOf];omega
  · obtain rfl:n=k:=by omega
    have HE:=Zh (show Qas (l.take n)=Qas l by rw [List.take_of_length_le (by rw [HLEN.out];exact Zn _)])
    go_wp2
    go_ret
    exact ⟨Qbz HE.out,hbw2⟩
/-! Rows of Qcd, each of the call's own, as the cells of one block. -/
def IkG (t:TypeId)(W:World)(B g n:Nat) (ls:List (List Int)):Prop :=
 ls.length=n∧g<B∧∃ cs,Blk W g t cs∧cs.size=n∧(∀ (v:Nat) (l:List Int),ls[v]?=some l→∃ A c,cs[v]?=some (.slice A l.length c)∧Own W B 3 1 A l.length c (Qag l)) ∧
  ∀ (v v':Nat) A m c A' m' c',v≠v'→cs[v]?=some (.slice A m c)→cs[v']?=some (.slice A' m' c')→Dj A A'
theorem IkG.start {t:TypeId}{W:World}{B g n:Nat}(hg:g<B) (h:Blk W g t (Qbg (.slice none 0 0) n)):IkG t W B g n (List.replicate n []):=by
 refine ⟨by simp,hg,_,h,by simp [Qbg],fun v l hl=>?_,fun v v' A m c A' m' c' _ h1 _=>?_⟩
 · obtain ⟨hv,e⟩:=Zs hl
   simp at e;subst e;refine ⟨none,0,?_,Own.nil _ _ _ _⟩;simp at hv;simp [Qbg,hv]
 · have e:=(Array.getElem?_eq_some_iff.1 h1).2
   simp [Qbg] at e;obtain ⟨rfl,_,_⟩:=e;exact .inl rfl
theorem IkG.below {t:TypeId}{W W':World}{B g n:Nat} {ls:List (List Int)} (h:IkG t W B g n ls) (hb:Below W.heap.size W W'):IkG t W' B g n ls:=by
 obtain ⟨h1,h2,cs,h3,h4,h5,h6⟩:=h
 exact ⟨h1,h2,cs,h3.below hb h3.lt,h4,fun v l hl=>by
  obtain ⟨A,c,k1,k2⟩:=h5 v l hl;exact ⟨A,c,k1,k2.below hb⟩,h6⟩
theorem IkG.row {t:TypeId}{W:World}{B g n u:Nat} {ls:List (List Int)} (h:IkG t W B g n ls) (hu:u<n):∃ A c l,ls[u]?=some l∧W.cell? ⟨g,u,none⟩=some (.slice A l.length c)∧W.frozen? ⟨g,u,none⟩=false∧Own W B 3 1 A l.length c (Qag l):=by
 obtain ⟨h1,h2,cs,h3,h4,h5,h6⟩:=h;have hl:ls[u]?=some ls[u]:=Zg (by omega);obtain ⟨A,c,k1,k2⟩:=h5 u _ hl;exact ⟨A,c,_,hl,by rw [h3.cell];exact k1,h3.frozen u,k2⟩
theorem IkG.lt {t:TypeId}{W:World}{B g n:Nat} {ls:List (List Int)} (h:IkG t W B g n ls):g<W.heap.size:=by
 obtain ⟨_,_,cs,h3,_⟩:=h;exact h3.lt
theorem IkG.push {t:TypeId}{W w':World}{B g n u c c':Nat}{A A':Option Addr} {ls:List (List Int)} {l:List Int} {k:Int} (h:IkG t W B g n ls) (hl:ls[u]?=some l) (hc:W.cell? ⟨g,u,none⟩=some (.slice A l.length c))
 (hown:Own w' B 3 1 A' (l.length+1) c' (Qag l ++Qag [k])) (hg:W.grownBy w' (Qac A)) (hat:Qac A'=Qac A∨Qac A'=some W.heap.size) :
 IkG t (w'.setCell ⟨g,u,none⟩ (.slice A' (l.length+1) c')) B g n (ls.set u (l ++[k])):=by
 obtain ⟨h1,h2,cs,h3,h4,h5,h6⟩:=h;have hu:=(Zs hl).1;have hcs:cs[u]?=some (.slice A l.length c):=by rw [←h3.cell];exact hc
 obtain ⟨A0,c0,k1,hown0⟩:=h5 u l hl;rw [hcs] at k1
 cases k1
 have hgA:Qac A≠some g:=hown0.ne h2;have hgA':Qac A'≠some g:=hown.ne h2;refine ⟨by rw [List.length_set];exact h1,h2,_,(h3.grown hg hgA).set_ u (.slice A' (l.length+1) c'),by simpa using h4,fun v l' hl'=>?_,fun v v' X m d X' m' d' hne e1 e2=>?_⟩
 · by_cases e:u=v
   · subst e
     rw [List.getElem?_set_self hu] at hl'
     cases hl'
     refine ⟨A',c',by rw [Array.getElem?_setIfInBounds_self_of_lt (by omega),List.length_append];rfl,?_⟩;rw [List.length_append,Qbr];exact hown.far (Qaa _ _ _ _) (.inr hgA')
   · rw [List.getElem?_set_ne e] at hl'
     obtain ⟨X,d,k1,k2⟩:=h5 v l' hl';refine ⟨X,d,by rw [Array.getElem?_setIfInBounds_ne e];exact k1,(k2.far hg (h6 u v _ _ _ _ _ _ e hcs k1).far).far (Qaa _ _ _ _) (.inr (k2.ne h2))⟩
 · have old:∀ v X m d,u≠v→cs[v]?=some (.slice X m d)→Dj A' X:=fun v X m d hv e3=>by
    have hv2:=(Array.getElem?_eq_some_iff.1 e3).1;obtain ⟨X0,d0,k1,k2⟩:=h5 v _ (Zg (show v<ls.length by omega))
    rw [e3] at k1
    cases k1
    exact (h6 u v _ _ _ _ _ _ hv hcs e3).next k2 hat
   by_cases a1:u=v
   · subst a1
     rw [Array.getElem?_setIfInBounds_self_of_lt (by omega)] at e1
     cases e1
     rw [Array.getElem?_setIfInBounds_ne hne] at e2;exact old v' X' m' d' hne e2
   · rw [Array.getElem?_setIfInBounds_ne a1] at e1
     by_cases a2:u=v'
     · subst a2
       rw [Array.getElem?_setIfInBounds_self_of_lt (by omega)] at e2
       cases e2
       exact (old v X m d a1 e1).symm
     · rw [Array.getElem?_setIfInBounds_ne a2] at e2
       exact h6 v v' X m d X' m' d' hne e1 e2
theorem IkG.cellG {t:TypeId}{W w':World}{B g n u:Nat}{r:Option Nat} {ls:List (List Int)} (h:IkG t W B g n ls) (hu:u<n) (hg:W.grownBy w' r) (hr:r≠some g):∃ v,w'.cell? ⟨g,u,none⟩=some v∧w'.frozen? ⟨g,u,none⟩=false:=by
 obtain ⟨h1,h2,cs,h3,h4,h5,h6⟩:=h;have hb:=h3.grown hg hr;exact ⟨_,by rw [hb.cell];exact Array.getElem?_eq_getElem (by omega),hb.frozen u⟩
/-! Arcs of a row that are marked. -/
def Qhp (P:Tri→Bool)(l:List Tri):List Int:=(l.zipIdx.filter (fun p=>P p.1)).map (fun p=>(p.2:Int))
theorem Qwj (P:Tri→Bool)(l:List Tri)(a:Tri):Qhp P (l ++[a])=Qhp P l ++(if P a then [(l.length:Int)] else []):=by
 unfold Qhp;rw [List.zipIdx_append,List.filter_append,List.map_append]
 congr 1
 cases h:P a <;> simp [h]
theorem Qjz {P:Tri→Bool}{l:List Tri}{a:Tri}{k:Nat} (h:l[k]?=some a):Qhp P (l.take (k+1))=Qhp P (l.take k) ++(if P a then [(k:Int)] else []):=by
 have hlt:=(Zs h).1;rw [List.take_succ_eq_append_getElem hlt,(Zs h).2,Qwj,List.length_take,Nat.min_eq_left (by omega)]
theorem Qff (P:Tri→Bool)(l:List Tri):(Qhp P l).length≤l.length:=by
 unfold Qhp;rw [List.length_map];refine Nat.le_trans (List.length_filter_le _ _) ?_;simp
theorem Qru {P:Tri→Bool}{l:List Tri}{x:Int}:x∈Qhp P l↔∃ (i:Nat) (a:Tri),x=(i:Int)∧l[i]?=some a∧P a=true:=by
 unfold Qhp;simp only [List.mem_map,List.mem_filter]
 constructor
 · rintro ⟨⟨a,i⟩,⟨h1,h2⟩,rfl⟩
   exact ⟨i,a,rfl,List.mem_zipIdx_iff_getElem?.1 h1,h2⟩
 · rintro ⟨i,a,rfl,h1,h2⟩
   exact ⟨(a,i),⟨List.mem_zipIdx_iff_getElem?.2 h1,h2⟩,rfl⟩
theorem Qji (P:Tri→Bool):∀ l:List Tri,(Qhp P l).Pairwise (·<·):=by
 intro l;unfold Qhp;rw [List.pairwise_map];refine List.Pairwise.filter _ ?_;rw [List.pairwise_iff_getElem];intro i j hi hj hij;simp;exact hij
def Qab (l:List Int)(v:Int):Int:=l.getD v.toNat 0
theorem Qar {l:List Int}{v:Nat}{p:Int} (h:l[v]?=some p):Qab l (v:Int)=p:=by
 unfold Qab;rw [Int.toNat_natCast,List.getD_eq_getElem?_getD,h]
 rfl
def Qcg (l:List Int)(a:Tri):Bool:=Qab l a.1 != Qab l a.2.1
def Qau (ar:List Tri)(l:List Int):List Int:=Qhp (Qcg l) ar
def toC (ar:List Tri)(l:List Int)(a:Int):Int:=Qab l (ar.getD a.toNat (0,0,0)).2.1
def frC (ar:List Tri)(l:List Int)(a:Int):Int:=Qab l (ar.getD a.toNat (0,0,0)).1
theorem Qlu {ar:List Tri}{l:List Int}{a:Nat}{x:Tri} (h:ar[a]?=some x):toC ar l (a:Int)=Qab l x.2.1:=by
 unfold toC;rw [Int.toNat_natCast,List.getD_eq_getElem?_getD,h]
 rfl
theorem Qmc {ar:List Tri}{l:List Int}{a:Nat}{x:Tri} (h:ar[a]?=some x):frC ar l (a:Int)=Qab l x.1:=by
 unfold frC;rw [Int.toNat_natCast,List.getD_eq_getElem?_getD,h]
 rfl
def Qdl (t f:Int→Int)(X:List Int)(n:Nat):List (List Int):=(List.range (n*2)).map (fun i:Nat=>if i % 2=0 then X.filter (fun a=>t a == ((i / 2:Nat):Int)) else X.filter (fun a=>f a == ((i / 2:Nat):Int)))
theorem Qfn (t f:Int→Int)(X:List Int)(n:Nat):(Qdl t f X n).length=n*2:=by simp [Qdl]
theorem Qiw {t f:Int→Int}{X:List Int}{n c:Nat}(h:c<n):(Qdl t f X n)[c*2]?=some (X.filter (fun a=>t a == (c:Int))):=by
 unfold Qdl;rw [List.getElem?_map,List.getElem?_range (by omega)];simp
theorem Qgu {t f:Int→Int}{X:List Int}{n c:Nat}(h:c<n):(Qdl t f X n)[c*2+1]?=some (X.filter (fun a=>f a == (c:Int))):=by
 unfold Qdl;rw [List.getElem?_map,List.getElem?_range (by omega),Option.map_some,if_neg (by omega),show (c*2+1) / 2=c by omega]
theorem Qnf (t f:Int→Int)(n:Nat):Qdl t f [] n=List.replicate (n*2) []:=by
 apply List.ext_getElem?
 intro i
 rcases Nat.lt_or_ge i (n*2) with h|h
 · unfold Qdl
   rw [List.getElem?_map,List.getElem?_range h];simp [h]
 · rw [List.getElem?_eq_none (by rw [Qfn];exact h),List.getElem?_eq_none (by simpa using h)]
theorem Qlm {t f:Int→Int}{X:List Int}{n p q:Nat}{a:Int} (hp:t a=(p:Int)) (hq:f a=(q:Int)) (h1:p<n) (h2:q<n) :
 ((Qdl t f X n).set (p*2) (X.filter (fun a=>t a == (p:Int)) ++[a])).set (q*2+1) (X.filter (fun a=>f a == (q:Int)) ++[a])=Qdl t f (X ++[a]) n:=by
 apply List.ext_getElem?
 intro i
 rcases Nat.lt_or_ge i (n*2) with hi|hi
 · have hl:∀ Y,(Qdl t f Y n)[i]?=some (if i % 2=0 then Y.filter (fun a=>t a == ((i / 2:Nat):Int)) else Y.filter (fun a=>f a == ((i / 2:Nat):Int))):=fun Y=>by
    unfold Qdl;rw [List.getElem?_map,List.getElem?_range hi]
    rfl
   by_cases e1:q*2+1=i
   · subst e1
     rw [List.getElem?_set_self (by rw [List.length_set,Qfn];exact hi),Qgu h2,List.filter_append];simp [hq]
   · rw [List.getElem?_set_ne e1]
     by_cases e2:p*2=i
     · subst e2
       rw [List.getElem?_set_self (by rw [Qfn];exact hi),Qiw h1,List.filter_append];simp [hp]
     · rw [List.getElem?_set_ne e2,hl,hl]
       congr 1
       rcases Nat.mod_two_eq_zero_or_one i with h0|h0
       · rw [if_pos h0,if_pos h0,List.filter_append]
         simp [hp];omega
       · rw [if_neg (by omega),if_neg (by omega),List.filter_append]
         simp [hq];omega
 · rw [List.getElem?_eq_none (by rw [List.length_set,List.length_set,Qfn];exact hi),List.getElem?_eq_none (by rw [Qfn];exact hi)]
abbrev Qan:=List Int×List Int
def RdC (w:World)(A:Option Addr)(n:Nat)(row:List Qan):Prop :=
 row.length=n∧∀ c x,row[c]?=some x→∃ b o A1 n1 c1 A2 n2 c2,A=some ⟨b,o,none⟩∧w.cell? ⟨b,o+c*2,none⟩=some (.slice A1 n1 c1)∧RdI w A1 n1 x.1∧w.cell? ⟨b,o+c*2+1,none⟩=some (.slice A2 n2 c2)∧RdI w A2 n2 x.2∧(n1≤c1∧c1≤9223372036854775807)∧n2≤c2∧c2≤9223372036854775807
theorem RdC.le {w w':World}{A:Option Addr}{n:Nat}{row:List Qan}(h:RdC w A n row)(hl:Le w w'):RdC w' A n row :=
 ⟨h.1,fun c x hx=>by
  obtain ⟨b,o,A1,n1,c1,A2,n2,c2,e,h1,h2,h3,h4,h5⟩:=h.2 c x hx;exact ⟨b,o,A1,n1,c1,A2,n2,c2,e,hl _ _ h1,h2.le hl,hl _ _ h3,h4.le hl,h5⟩⟩
theorem RdC.at_ {w:World}{A:Option Addr}{n c:Nat}{row:List Qan}(h:RdC w A n row)(hc:c<n):∃ x b o A1 n1 c1 A2 n2 c2,row[c]?=some x∧A=some ⟨b,o,none⟩∧w.cell? ⟨b,o+c*2,none⟩=some (.slice A1 n1 c1)∧RdI w A1 n1 x.1∧w.cell? ⟨b,o+c*2+1,none⟩=some (.slice A2 n2 c2)∧RdI w A2 n2 x.2∧(n1≤c1∧c1≤9223372036854775807)∧n2≤c2∧c2≤9223372036854775807:=by
 have hl:c<row.length:=by rw [h.1];exact hc
 obtain ⟨b,o,A1,n1,c1,A2,n2,c2,h1⟩:=h.2 c _ (Zg hl);exact ⟨_,b,o,A1,n1,c1,A2,n2,c2,Zg hl,h1⟩
def RdG (w:World)(A:Option Addr)(n:Nat) (gs:List (List Qan)):Prop :=
 gs.length=n∧∀ i row,gs[i]?=some row→∃ b o A' n' c',A=some ⟨b,o,none⟩∧w.cell? ⟨b,o+i,none⟩=some (.slice A' n' c')∧RdC w A' n' row∧n'≤c'∧c'≤9223372036854775807
theorem RdG.le {w w':World}{A:Option Addr}{n:Nat} {gs:List (List Qan)} (h:RdG w A n gs) (hl:Le w w'):RdG w' A n gs :=
 ⟨h.1,fun i row hx=>by
  obtain ⟨b,o,A',n',c',e,h1,h2,h3⟩:=h.2 i row hx;exact ⟨b,o,A',n',c',e,hl _ _ h1,h2.le hl,h3⟩⟩
theorem RdG.at_ {w:World}{A:Option Addr}{n i:Nat} {gs:List (List Qan)} (h:RdG w A n gs) (hi:i<n):∃ row b o A' n' c',gs[i]?=some row∧A=some ⟨b,o,none⟩∧w.cell? ⟨b,o+i,none⟩=some (.slice A' n' c')∧RdC w A' n' row∧n'≤c'∧c'≤9223372036854775807:=by
 have hl:i<gs.length:=by rw [h.1];exact hi
 obtain ⟨b,o,A',n',c',h1⟩:=h.2 i _ (Zg hl);exact ⟨_,b,o,A',n',c',Zg hl,h1⟩
def Qaf (ar:List Tri)(l:List Int):List Qan:=(List.range (Qas l).toNat).map (fun c:Nat=>((Qau ar l).filter (fun a=>toC ar l a == (c:Int)),(Qau ar l).filter (fun a=>frC ar l a == (c:Int))))
theorem Qat (ar:List Tri)(l:List Int):(Qaf ar l).length=(Qas l).toNat:=by simp [Qaf]
theorem Qcf {ar:List Tri}{l:List Int}{c:Nat} (h:c<(Qas l).toNat):(Qaf ar l)[c]?=some ((Qau ar l).filter (fun a=>toC ar l a == (c:Int)),(Qau ar l).filter (fun a=>frC ar l a == (c:Int))):=by
 unfold Qaf;rw [List.getElem?_map,List.getElem?_range h]
 rfl
def Qae (ar:List Tri) (ls:List (List Int)):List (List Qan):=ls.map (Qaf ar)
end Go.Proofs.YteaoiabikjnkeaaGreatDoor
