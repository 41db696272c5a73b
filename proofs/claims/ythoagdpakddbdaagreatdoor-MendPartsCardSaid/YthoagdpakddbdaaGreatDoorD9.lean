/- Parts of the proof: LeP, Pt, Pa, Gw, Rm. -/
import Derived.Test.YthoagdpakddbdaaGreatDoorD1
import Derived.Test.YthoagdpakddbdaaGreatDoorD2
import Derived.Test.YthoagdpakddbdaaGreatDoorD4
import Derived.Test.YthoagdpakddbdaaGreatDoorD8
namespace Go.Proofs.YthoagdpakddbdaaGreatDoor
abbrev Stp:=Nat×Int×Int
def StF (L:Nat→List Stp):Qbq:=fun p q d=>∃ s∈L p,s.2.1<0∧s.1=q∧s.2.2=d
def OuF (L:Nat→List Stp):Qbq:=fun p k d=>∃ s∈L p,s.2.1=(k:Int)∧s.2.2=d
def Qci (dn:List Bool)(c:Int) (st:List Int×(Nat→Option Int)) (s:Stp):List Int×(Nat→Option Int) :=
 if 0≤s.2.1 then (st.1.set s.2.1.toNat (min (st.1.getD s.2.1.toNat 0) (c+s.2.2)),st.2)
 else (st.1,if dn.getD s.1 false=false then Qui st.2 s.1 (c+s.2.2) else st.2)
structure Qnr (L:Nat→List Stp) (n outs:Nat) (D:Int):Prop where
 to_:∀ p,p<n→∀ s∈L p,s.2.1<0→s.1<n
 out:∀ p,p<n→∀ s∈L p,s.2.1<outs
 bd:∀ p,p<n→∀ s∈L p,0≤s.2.2∧s.2.2≤D
theorem Qrp {L:Nat→List Stp}{n:Nat}{dn:List Bool}{s p:Nat}{dnf:Nat→Option Int}{c:Int} (hdn:∀ q,q<n→(dn.getD q false=true↔dnf q≠none)) :
 ∀ (l:List Stp) (st:List Int×(Nat→Option Int)) (Gone:Nat→Int→Prop),(∀ x∈l,x∈L p∧(x.2.1<0→x.1<n))→Qux (StF L) s dnf st.2 p c Gone →
  Qux (StF L) s dnf (l.foldl (Qci dn c) st).2 p c (fun r e=>Gone r e∨∃ x∈l,x.2.1<0∧x.1=r∧x.2.2=e)
 | [],st,Gone,_,h=>h.gone (fun r d _ hg=>hg.elim id (fun ⟨_,e,_⟩=>by cases e))
 | x::l,(row,hp),Gone,hb,h=>by
  have hx:=hb x (by simp)
  have h1:Qux (StF L) s dnf (Qci dn c (row,hp) x).2 p c (fun r e=>Gone r e∨(x.2.1<0∧x.1=r∧x.2.2=e)):=by
   unfold Qci
   by_cases ho:0≤x.2.1
   · simp only [if_pos ho]
     exact h.gone (fun r d _ hg=>hg.elim id (fun e=>by omega))
   · simp only [if_neg ho]
     have hst:StF L p x.1 x.2.2:=⟨x,hx.1,by omega,rfl,rfl⟩
     by_cases h5:dn.getD x.1 false=true
     · have hne:=(hdn x.1 (hx.2 (by omega))).1 h5
       rw [if_neg (by rw [h5];simp)];exact (h.put hst (.inl ⟨hne,fun e he=>h.dm x.1 e he _ ((h.dr p c h.at_).step hst),rfl⟩)).gone (fun r d _ hg=>hg.elim .inl (fun e=>.inr ⟨e.2.1.symm,e.2.2.symm⟩))
     · have h6:dn.getD x.1 false=false:=by simpa using h5
       rw [if_pos h6]
       have hno:dnf x.1=none:=by
        cases hd:dnf x.1 with
        | none=>rfl
        | some e=>exact absurd ((hdn x.1 (hx.2 (by omega))).2 (by rw [hd];simp)) h5
       refine (h.put (hp':=Qui hp x.1 (c+x.2.2)) hst (.inr ⟨hno,fun r hr=>by unfold Qui;rw [if_neg hr],?_⟩)).gone (fun r d _ hg=>hg.elim .inl (fun e=>.inr ⟨e.2.1.symm,e.2.2.symm⟩));unfold Qui;rw [if_pos rfl]
       dsimp only
       cases hv:hp x.1 with
       | none=>exact .inr ⟨fun e he=>(by cases he),rfl⟩
       | some z =>
        by_cases hz:z≤c+x.2.2
        · exact .inl ⟨z,rfl,hz,by simp [hz]⟩
        · exact .inr ⟨fun e he=>(by cases he;omega),by simp [hz]⟩
  have h2:=Qrp hdn l _ _ (fun q hq=>hb q (by simp [hq])) h1;refine h2.gone (fun r d _ hg=>?_)
  rcases hg with hg|⟨y,hy,hg⟩
  · exact .inl (.inl hg)
  · rcases List.mem_cons.1 hy with e|e
    · subst e;exact .inl (.inr hg)
    · exact .inr ⟨y,e,hg⟩
theorem Qkd {dn:List Bool}{c:Int}:∀ (l:List Stp) (st:List Int×(Nat→Option Int)),(l.foldl (Qci dn c) st).1.length=st.1.length
 | [],st=>rfl
 | x::l,st=>by
  rw [List.foldl_cons,Qkd l];unfold Qci
  split <;> simp
theorem Qss {dn:List Bool}{c D B:Int}(hc:c+D≤B):∀ (l:List Stp) (st:List Int×(Nat→Option Int)),(∀ x∈l,x.2.2≤D)→(∀ q e,st.2 q=some e→e≤B) →
 ∀ q e,(l.foldl (Qci dn c) st).2 q=some e→e≤B
 | [],st,_,h=>h
 | x::l,(row,hp),hb,h=>by
  have hx:=hb x (by simp);refine Qss hc l _ (fun y hy=>hb y (by simp [hy])) ?_;intro q e hq;unfold Qci at hq
  split at hq
  · exact h q e hq
  · simp only at hq
    split at hq
    · unfold Qui at hq
      by_cases e1:q=x.1
      · rw [if_pos e1] at hq
        split at hq
        · cases hq;omega
        · rename_i z hz
          have:=h x.1 z hz
          split at hq <;> (cases hq;omega)
      · rw [if_neg e1] at hq;exact h q e hq
    · exact h q e hq
theorem Qoh {dn:List Bool}{c:Int}(k:Nat):∀ (l:List Stp) (st:List Int×(Nat→Option Int)),k<st.1.length →
 (l.foldl (Qci dn c) st).1.getD k 0≤st.1.getD k 0∧(∀ x∈l,x.2.1=(k:Int)→(l.foldl (Qci dn c) st).1.getD k 0≤c+x.2.2) ∧
  ((l.foldl (Qci dn c) st).1.getD k 0=st.1.getD k 0∨∃ x∈l,x.2.1=(k:Int)∧(l.foldl (Qci dn c) st).1.getD k 0=c+x.2.2)
 | [],st,_=>⟨Int.le_refl _,fun x hx=>(by cases hx),.inl rfl⟩
 | x::l,st,hk=>by
  have hl:(Qci dn c st x).1.length=st.1.length:=by unfold Qci;split <;> simp
  obtain ⟨h1,h2,h3⟩:=Qoh k l (Qci dn c st x) (by rw [hl];exact hk);rw [List.foldl_cons]
  have hs:(Qci dn c st x).1.getD k 0=if x.2.1=(k:Int) then min (st.1.getD k 0) (c+x.2.2) else st.1.getD k 0:=by
   unfold Qci
   by_cases ho:0≤x.2.1
   · simp only [if_pos ho]
     by_cases e:x.2.1=(k:Int)
     · rw [if_pos e,e,Int.toNat_natCast]
       simp [List.getD_eq_getElem?_getD,hk]
     · rw [if_neg e]
       have:¬x.2.1.toNat=k:=by omega
       simp [List.getD_eq_getElem?_getD,this]
   · simp only [if_neg ho]
     rw [if_neg (by omega)]
  generalize hz:(Qci dn c st x).1.getD k 0=z at h1 h3 hs;generalize hy:(l.foldl (Qci dn c) (Qci dn c st x)).1.getD k 0=y at h1 h2 h3 ⊢;refine ⟨by split at hs <;> omega,fun u hu e=>?_,?_⟩
  · rcases List.mem_cons.1 hu with rfl|hu
    · rw [if_pos e] at hs;omega
    · exact h2 u hu e
  · rcases h3 with h3|⟨u,hu,h4,h5⟩
    · by_cases e:x.2.1=(k:Int)
      · rw [if_pos e] at hs
        by_cases h6:st.1.getD k 0≤c+x.2.2
        · exact .inl (by omega)
        · exact .inr ⟨x,by simp,e,by omega⟩
      · rw [if_neg e] at hs;exact .inl (by omega)
    · exact .inr ⟨u,by simp [hu],h4,h5⟩
structure LeI (L:Nat→List Stp) (n outs start:Nat) (B:Int) (dnf hp:Nat→Option Int) (dn:List Bool) (row:List Int):Prop where
 dij:Dij (StF L) start dnf hp
 fl:∀ q,q<n→(dn.getD q false=true↔dnf q≠none)
 dlt:∀ q,n≤q→dnf q=none
 bd:∀ q e,hp q=some e→e≤B
 best:∀ k,k<outs→OutB (OuF L) dnf k (row.getD k 0) (fun _=>False)
 ld:dn.length=n
 lr:row.length=outs
theorem LeI.init {L:Nat→List Stp}{n outs start:Nat}{B:Int}{hp:Nat→Option Int}{row:List Int}(hB:0≤B)(h:∀ q,hp q=if q=start then some 0 else none)(hr:row=List.replicate outs 1152921504606846976):LeI L n outs start B (fun _=>none) hp (List.replicate n false) row:=by
 subst hr;refine ⟨Dij.init _ _ h,fun q _=>?_,fun q _=>rfl,fun q e hq=>?_,fun k hk=>⟨fun p c d h=>(by cases h),.inl ?_⟩,by simp,by simp⟩
 · rw [List.getD_eq_getElem?_getD,List.getElem?_replicate]
   split <;> simp
 · rw [h] at hq
   split at hq
   · cases hq;exact hB
   · cases hq
 · rw [List.getD_eq_getElem?_getD,List.getElem?_replicate,if_pos hk]
   rfl
theorem StF.bd {L:Nat→List Stp}{n outs:Nat}{D:Int}(h:Qnr L n outs D) (he:∀ p,n≤p→L p=[]) {p q:Nat} {d:Int} (hs:StF L p q d):0≤d∧d≤D∧p<n∧q<n:=by
 obtain ⟨s,h1,h2,rfl,rfl⟩:=hs
 have hp:p<n:=by
  rcases Nat.lt_or_ge p n with h3|h3
  · exact h3
  · rw [he p h3] at h1;cases h1
 exact ⟨(h.bd p hp s h1).1,(h.bd p hp s h1).2,hp,h.to_ p hp s h1 h2⟩
theorem OuF.bd {L:Nat→List Stp}{n outs:Nat}{D:Int}(h:Qnr L n outs D) (he:∀ p,n≤p→L p=[]) {p k:Nat} {d:Int} (hs:OuF L p k d):0≤d∧d≤D:=by
 obtain ⟨s,h1,h2,rfl⟩:=hs
 have hp:p<n:=by
  rcases Nat.lt_or_ge p n with h3|h3
  · exact h3
  · rw [he p h3] at h1;cases h1
 exact h.bd p hp s h1
theorem LeI.next {L:Nat→List Stp}{n outs start p:Nat}{M D B c:Int}{dnf hp:Nat→Option Int}{dn:List Bool}{row:List Int}(h:LeI L n outs start B dnf hp dn row)(hf:Qnr L n outs D) (he:∀ p,n≤p→L p=[])
 (hM:∀ p c,Rch (StF L) start p c→∃ e,Rch (StF L) start p e∧e≤M) (hB:M+D≤B) (hpn:p<n) (hp1:hp p=some c) (hm:∀ q e,hp q=some e→c≤e) :
 LeI L n outs start B (fun q=>if q=p then some c else dnf q) ((L p).foldl (Qci (dn.set p true) c) (row,fun q=>if q=p then none else hp q)).2 (dn.set p true) ((L p).foldl (Qci (dn.set p true) c) (row,fun q=>if q=p then none else hp q)).1:=by
 have h0:∀ p q d,StF L p q d→0≤d:=fun p q d hs=>(StF.bd hf he hs).1
 have hno:dnf p=none:=by
  cases hd:dnf p with
  | none=>rfl
  | some e=>have:=h.dij.off p e hd;rw [hp1] at this;cases this
 have hfl:∀ q,q<n→((dn.set p true).getD q false=true↔(fun q=>if q=p then some c else dnf q) q≠none):=fun q hq=>by
  by_cases e:q=p
  · subst e
    have:q<dn.length:=by rw [h.ld];exact hq
    simp [List.getD_eq_getElem?_getD,this]
  · have e':¬p=q:=fun x=>e x.symm
    have:=h.fl q hq
    simpa [List.getD_eq_getElem?_getD,List.getElem?_set,e,e'] using this
 have hc:c≤M:=h.dij.bdTake h0 hM hp1 hm;have hdj:=Qrp (L:=L) (n:=n) hfl (L p) (row,fun q=>if q=p then none else hp q) _ (fun x hx=>⟨hx,fun h1=>hf.to_ p hpn x hx h1⟩) (h.dij.take h0 hp1 hm);refine ⟨hdj.done (fun q d ⟨s,h1,h2,h3,h4⟩=>.inr ⟨s,h1,h2,h3,h4⟩),hfl,fun q hq=>?_,Qss (D:=D) (by omega) _ _ (fun x hx=>(hf.bd p hpn x hx).2) (fun q e hq=>?_),fun k hk=>?_,by rw [List.length_set];exact h.ld,by rw [Qkd];exact h.lr⟩
 · have:q≠p:=by omega
   simp [this,h.dlt q hq]
 · by_cases e1:q=p
   · simp [e1] at hq
   · simp [e1] at hq;exact h.bd q e hq
 · obtain ⟨h1,h2,h3⟩:=Qoh (dn:=dn.set p true) (c:=c) k (L p) (row,fun q=>if q=p then none else hp q) (by rw [h.lr];exact hk)
   refine (h.best k hk).next hno h1 (fun d ⟨s,h4,h5,h6⟩=>?_) (h3.elim .inl (fun ⟨s,h4,h5,h6⟩=>.inr ⟨_,⟨s,h4,h5,rfl⟩,h6⟩));subst h6;exact h2 s h4 h5
theorem LeI.done {L:Nat→List Stp}{n outs start:Nat}{M D B:Int}{dnf hp:Nat→Option Int}{dn:List Bool}{row:List Int}(h:LeI L n outs start B dnf hp dn row)(hf:Qnr L n outs D) (he:∀ p,n≤p→L p=[])
 (hM:∀ p c,Rch (StF L) start p c→∃ e,Rch (StF L) start p e∧e≤M) (hB:M+D<1152921504606846976) (hn:∀ q,hp q=none):∀ k,k<outs→Lst (Quf (StF L) (OuF L) start k) (row.getD k 0):=fun k hk =>
 OutB.least h.dij (fun p q d hs=>(StF.bd hf he hs).1) hn (h.best k hk) (fun p c d h1 h2=>by
  have h3:=h.dij.bd hM h1;have h4:=OuF.bd hf he h2;unfold INF;omega)
end Go.Proofs.YthoagdpakddbdaaGreatDoor
namespace Go.Proofs.YthoagdpakddbdaaGreatDoor
open Go.RowKit Go.Proofs.Tryz
theorem Qnd {P:List Int→Prop} (h0:P []) (hs:∀ l x,P l→P (l ++[x])) (l:List Int):P l:=by
 have h:∀ l:List Int,P l.reverse:=by
  intro l
  induction l with
  | nil=>exact h0
  | cons x l ih=>rw [List.reverse_cons];exact hs _ _ ih
 have:=h l.reverse
 rwa [List.reverse_reverse] at this
def Qai (l:List Int):Int:=l.foldl (fun n x=>max n (x+1)) 0
theorem Qhg (l:List Int)(x:Int):Qai (l ++[x])=max (Qai l) (x+1):=by simp [Qai]
theorem Qbt:∀ l:List Int,0≤Qai l:=by
 refine Qnd (by simp [Qai]) (fun l x ih=>by rw [Qhg];omega)
theorem Qmo {l:List Int}{x:Int}:x∈l→x<Qai l:=by
 revert x
 refine Qnd (P:=fun l=>∀ {x:Int},x∈l→x<Qai l) (fun h=>by cases h) (fun l y ih=>?_) l
 · intro x h
   rw [Qhg]
   rcases List.mem_append.1 h with h|h
   · have:=ih h;omega
   · rw [List.mem_singleton.1 h];omega
theorem Qxw {l:List Int}:0<Qai l→∃ x∈l,Qai l=x+1:=by
 refine Qnd (P:=fun l=>0<Qai l→∃ x∈l,Qai l=x+1) (fun h=>by simp [Qai] at h) (fun l y ih=>?_) l
 · intro h
   rw [Qhg] at h ⊢
   by_cases h1:Qai l≤y+1
   · exact ⟨y,by simp,by omega⟩
   · have h0:=Qbt l
     obtain ⟨x,hx,e⟩:=ih (by omega);exact ⟨x,List.mem_append_left _ hx,by omega⟩
theorem Qbp {l:List Int}{n:Int}(h:∀ x∈l,x<n)(hn:0≤n):Qai l≤n:=by
 by_cases h0:0<Qai l
 · obtain ⟨x,hx,e⟩:=Qxw h0
   have:=h x hx;omega
 · omega
structure Qfb (n:Nat) (l:List Int):Prop where
 len:l.length=n
 lo:∀ x∈l,0≤x
 hi:∀ x∈l,x<n
 all:∀ c:Nat,(c:Int)<Qai l→(c:Int)∈l
def Qdq (p l:List Int):Prop:=∀ (a b:Nat) (x y u v:Int),p[a]?=some x→p[b]?=some y→l[a]?=some u→l[b]?=some v→x≤y→u≤v
structure Qcg (n:Nat) (ls:List (List Int)):Prop where
 l1:1≤ls.length
 l6:ls.length≤6
 lvl:∀ l∈ls,Qfb n l
 nest:∀ (i:Nat) p l,ls[i]?=some p→ls[i+1]?=some l→Qdq p l
noncomputable def Qek (n:Nat) (p:Option (List Int)) (l:List Int):Int:=by
 classical exact if l.length≠n then 1 else if Qfb n l∧∀ q,p=some q→Qdq q l then 0 else 10
attribute [local go_sem ↓] Go.wp_at_zero Go.wp_at_succ
theorem Qie (Q:Option Addr)(L cq i:Nat) (ls:List (List Int)) (l:List Int) (w:World) (h:RdT w Q L ls) (hl:ls[i]?=some l) (hL:L≤1000000) :
 Calls prog 153 #[.agg #[.slice Q L cq],.int .i64 ((i:Int)+1)] w fun e w'=>∃ A n c,e=.returned (.slice A n c)∧RdI w A n l∧n≤c∧c≤9223372036854775807∧Below w.heap.size w w':=by
 have hi:i<L:=by rw [←h.1];exact (Zs hl).1
 obtain ⟨b,o,A,n,c,l',rfl,hl',hc,hr,q1,q2⟩:=h.at_ hi;rw [hl] at hl'
 cases hl'
 have HR:=Zh hr;have i1:(0:Int)≤(i:Int):=by omega
 have i2:(i:Int)<(L:Int):=by omega
 have i3:¬((i:Int)+1<1):=by omega
 have i4:¬((i:Int)+1 > (L:Int)):=by omega
 have i5:(i:Int)+1-1=(i:Int):=by omega
 have hca:=fun ob=>Zc (show Below w.heap.size w (w.alloc ob) from Qae) (Zn _) hc
 clear h hl hr hc
 go_enter func153,ntmps153
 go_wp2
 go_ret
 exact ⟨_,_,_,rfl,HR.out,q1,q2,Qae⟩
theorem row_ok (Q:Option Addr)(L cq i:Nat) (ls:List (List Int)) (l:List Int) (w:World) (h:RdT w Q L ls) (hl:ls[i]?=some l) (hL:L≤1000000) :
 Calls prog 154 #[.agg #[.slice Q L cq],.int .i64 ((i:Int)+1)] w fun e w'=>∃ A n c,e=.returned (.slice A n c)∧RdI w A n l∧n≤c∧c≤9223372036854775807∧Below w.heap.size w w':=by
 have hi:i<L:=by rw [←h.1];exact (Zs hl).1
 obtain ⟨b,o,A,n,c,l',rfl,hl',hc,hr,q1,q2⟩:=h.at_ hi;rw [hl] at hl'
 cases hl'
 have HR:=Zh hr;have i1:(0:Int)≤(i:Int):=by omega
 have i2:(i:Int)<(L:Int):=by omega
 have i3:¬((i:Int)+1<1):=by omega
 have i4:¬((i:Int)+1 > (L:Int)):=by omega
 have i5:(i:Int)+1-1=(i:Int):=by omega
 have hca:=fun ob=>Zc (show Below w.heap.size w (w.alloc ob) from Qae) (Zn _) hc
 clear h hl hr hc
 go_enter func154,ntmps154
 go_wp2
 go_ret
 exact ⟨_,_,_,rfl,HR.out,q1,q2,Qae⟩
theorem Qfz {l:List Int}{k:Nat}{x:Int} (h:l[k]?=some x):Qai (l.take (k+1))=max (Qai (l.take k)) (x+1):=by
 rw [List.take_succ_eq_append_getElem (Zs h).1,(Zs h).2,Qhg]
set_option maxHeartbeats 1000000 in
theorem count_ok (Q:Option Addr)(L cq i:Nat) (ls:List (List Int)) (l:List Int) (w:World) (h:RdT w Q L ls) (hl:ls[i]?=some l) (hL:L≤1000000) (hb:∀ x∈l,0≤x∧x≤1000000) :
 Calls prog 115 #[.agg #[.slice Q L cq],.int .i64 ((i:Int)+1)] w fun e w'=>e=.returned (.int .i64 (Qai l))∧Below w.heap.size w w':=by
 have HN:=Zh (show ∀ V,Below w.heap.size w V→Calls prog 153 #[.agg #[.slice Q L cq],.int .i64 ((i:Int)+1)] V fun e w'=>∃ A n c,e=.returned (.slice A n c)∧RdI V A n l∧n≤c∧c≤9223372036854775807∧Below V.heap.size V w' from fun V hV=>Qie Q L cq i ls l V (h.below hV) hl hL)
 have HB:=Zh hb;clear h hl hb
 go_enter func115,ntmps115
 go_wp2_with fail
 (refine Qac ?_;intro w1 hw1)
 have hb1:Below w.heap.size w w1:=by rw [hw1];exact Qae
 clear hw1;with_reducible refine (HN.out w1 hb1).mono ?_
 rintro e w2 ⟨A,n,c,rfl,hr,q1,q2,hb2⟩;have hr2:=hr.below hb2;have HLEN:=Zh hr.1;have hbw2:=Zb hb1 hb2;clear hr
 go_wp2_with fail
 go_loop [5,12] (fun m q=>∃ k:Nat,k≤n∧q=.int .i64 k∧m=.int .i64 (Qai (l.take k))) (fun _ q=>n-(intOf q).toNat)
 case atStart=>exact ⟨0,Nat.zero_le _,rfl,rfl⟩
 case round =>
  obtain ⟨k,hk,rfl,rfl⟩:=hrel
  by_cases hlt:k<n
  · obtain ⟨b,o,x,rfl,hx,hc⟩:=hr2.at_ hlt
    have hxb:=HB.out x (Zm hx);have HNX:=Zh (Qfz hx);have i1:(0:Int)≤(k:Int):=by omega
    have i2:(k:Int)<(n:Int):=by omega
    clear hx;generalize Qai (l.take k)=m at *
    by_cases hge:x ≥ m
    · go_wp2_with fail
      go_round
      case rel=>exact ⟨k+1,by omega,by go_num,by rw [HNX.out,show max m (x+1)=x+1 by omega]⟩
      case measure=>simp [intOf];omega
    · go_wp2_with fail
      go_round
      case rel=>exact ⟨k+1,by omega,by go_num,by rw [HNX.out,show max m (x+1)=m by omega]⟩
      case measure=>simp [intOf];omega
  · obtain rfl:n=k:=by omega
    have HE:=Zh (show Qai (l.take n)=Qai l by rw [List.take_of_length_le (by rw [HLEN.out];exact Zn _)])
    go_wp2
    go_ret
    exact ⟨Qbu HE.out,hbw2⟩
/-! Rows of Qcm, each of the call's own, as the cells of one block. -/
def IkG (t:TypeId)(W:World)(B g n:Nat) (ls:List (List Int)):Prop :=
 ls.length=n∧g<B∧∃ cs,Blk W g t cs∧cs.size=n∧(∀ (v:Nat) (l:List Int),ls[v]?=some l→∃ A c,cs[v]?=some (.slice A l.length c)∧Own W B 3 1 A l.length c (Qad l)) ∧
  ∀ (v v':Nat) A m c A' m' c',v≠v'→cs[v]?=some (.slice A m c)→cs[v']?=some (.slice A' m' c')→Dj A A'
theorem IkG.start {t:TypeId}{W:World}{B g n:Nat}(hg:g<B) (h:Blk W g t (Qbc (.slice none 0 0) n)):IkG t W B g n (List.replicate n []):=by
 refine ⟨by simp,hg,_,h,by simp [Qbc],fun v l hl=>?_,fun v v' A m c A' m' c' _ h1 _=>?_⟩
 · obtain ⟨hv,e⟩:=Zs hl
   simp at e;subst e;refine ⟨none,0,?_,Own.nil _ _ _ _⟩;simp at hv;simp [Qbc,hv]
 · have e:=(Array.getElem?_eq_some_iff.1 h1).2
   simp [Qbc] at e;obtain ⟨rfl,_,_⟩:=e;exact .inl rfl
theorem IkG.below {t:TypeId}{W W':World}{B g n:Nat} {ls:List (List Int)} (h:IkG t W B g n ls) (hb:Below W.heap.size W W'):IkG t W' B g n ls:=by
 obtain ⟨h1,h2,cs,h3,h4,h5,h6⟩:=h
 exact ⟨h1,h2,cs,h3.below hb h3.lt,h4,fun v l hl=>by
  obtain ⟨A,c,k1,k2⟩:=h5 v l hl;exact ⟨A,c,k1,k2.below hb⟩,h6⟩
theorem IkG.row {t:TypeId}{W:World}{B g n u:Nat} {ls:List (List Int)} (h:IkG t W B g n ls) (hu:u<n):∃ A c l,ls[u]?=some l∧W.cell? ⟨g,u,none⟩=some (.slice A l.length c)∧W.frozen? ⟨g,u,none⟩=false∧Own W B 3 1 A l.length c (Qad l):=by
 obtain ⟨h1,h2,cs,h3,h4,h5,h6⟩:=h;have hl:ls[u]?=some ls[u]:=Zg (by omega);obtain ⟨A,c,k1,k2⟩:=h5 u _ hl;exact ⟨A,c,_,hl,by rw [h3.cell];exact k1,h3.frozen u,k2⟩
theorem IkG.lt {t:TypeId}{W:World}{B g n:Nat} {ls:List (List Int)} (h:IkG t W B g n ls):g<W.heap.size:=by
 obtain ⟨_,_,cs,h3,_⟩:=h;exact h3.lt
theorem IkG.push {t:TypeId}{W w':World}{B g n u c c':Nat}{A A':Option Addr} {ls:List (List Int)} {l:List Int} {k:Int} (h:IkG t W B g n ls) (hl:ls[u]?=some l) (hc:W.cell? ⟨g,u,none⟩=some (.slice A l.length c))
 (hown:Own w' B 3 1 A' (l.length+1) c' (Qad l ++Qad [k])) (hg:W.grownBy w' (Qab A)) (hat:Qab A'=Qab A∨Qab A'=some W.heap.size) :
 IkG t (w'.setCell ⟨g,u,none⟩ (.slice A' (l.length+1) c')) B g n (ls.set u (l ++[k])):=by
 obtain ⟨h1,h2,cs,h3,h4,h5,h6⟩:=h;have hu:=(Zs hl).1;have hcs:cs[u]?=some (.slice A l.length c):=by rw [←h3.cell];exact hc
 obtain ⟨A0,c0,k1,hown0⟩:=h5 u l hl;rw [hcs] at k1
 cases k1
 have hgA:Qab A≠some g:=hown0.ne h2;have hgA':Qab A'≠some g:=hown.ne h2;refine ⟨by rw [List.length_set];exact h1,h2,_,(h3.grown hg hgA).set_ u (.slice A' (l.length+1) c'),by simpa using h4,fun v l' hl'=>?_,fun v v' X m d X' m' d' hne e1 e2=>?_⟩
 · by_cases e:u=v
   · subst e
     rw [List.getElem?_set_self hu] at hl'
     cases hl'
     refine ⟨A',c',by rw [Array.getElem?_setIfInBounds_self_of_lt (by omega),List.length_append];rfl,?_⟩;rw [List.length_append,Qbx];exact hown.far (Qaa _ _ _ _) (.inr hgA')
   · rw [List.getElem?_set_ne e] at hl'
     obtain ⟨X,d,k1,k2⟩:=h5 v l' hl';refine ⟨X,d,by rw [Array.getElem?_setIfInBounds_ne e];exact k1,(k2.far hg (h6 u v _ _ _ _ _ _ e hcs k1).far).far (Qaa _ _ _ _) (.inr (k2.ne h2))⟩
 · have old:∀ v X m d,u≠v→cs[v]?=some (.slice X m d)→Dj A' X:=fun v X m d hv e3=>by
    have hv2:=(Array.getElem?_eq_some_iff.1 e3).1;obtain ⟨X0,d0,k1,k2⟩:=h5 v _ (Zg (show v<ls.length by omega))
    rw [e3] at k1
    cases k1
    exact (h6 u v _ _ _ _ _ _ hv hcs e3).next k2 hat
   by_cases a1:u=v
   · subst a1
     rw [Array.getElem?_setIfInBounds_self_of_lt (by omega)] at e1
     cases e1
     rw [Array.getElem?_setIfInBounds_ne hne] at e2;exact old v' X' m' d' hne e2
   · rw [Array.getElem?_setIfInBounds_ne a1] at e1
     by_cases a2:u=v'
     · subst a2
       rw [Array.getElem?_setIfInBounds_self_of_lt (by omega)] at e2
       cases e2
       exact (old v X m d a1 e1).symm
     · rw [Array.getElem?_setIfInBounds_ne a2] at e2
       exact h6 v v' X m d X' m' d' hne e1 e2
theorem IkG.cellG {t:TypeId}{W w':World}{B g n u:Nat}{r:Option Nat} {ls:List (List Int)} (h:IkG t W B g n ls) (hu:u<n) (hg:W.grownBy w' r) (hr:r≠some g):∃ v,w'.cell? ⟨g,u,none⟩=some v∧w'.frozen? ⟨g,u,none⟩=false:=by
 obtain ⟨h1,h2,cs,h3,h4,h5,h6⟩:=h;have hb:=h3.grown hg hr;exact ⟨_,by rw [hb.cell];exact Array.getElem?_eq_getElem (by omega),hb.frozen u⟩
/-! Arcs of a row that are marked. -/
def Qic (P:Tri→Bool)(l:List Tri):List Int:=(l.zipIdx.filter (fun p=>P p.1)).map (fun p=>(p.2:Int))
theorem Qye (P:Tri→Bool)(l:List Tri)(a:Tri):Qic P (l ++[a])=Qic P l ++(if P a then [(l.length:Int)] else []):=by
 unfold Qic;rw [List.zipIdx_append,List.filter_append,List.map_append]
 congr 1
 cases h:P a <;> simp [h]
theorem Qkk {P:Tri→Bool}{l:List Tri}{a:Tri}{k:Nat} (h:l[k]?=some a):Qic P (l.take (k+1))=Qic P (l.take k) ++(if P a then [(k:Int)] else []):=by
 have hlt:=(Zs h).1;rw [List.take_succ_eq_append_getElem hlt,(Zs h).2,Qye,List.length_take,Nat.min_eq_left (by omega)]
theorem Qhi (P:Tri→Bool)(l:List Tri):(Qic P l).length≤l.length:=by
 unfold Qic;rw [List.length_map];refine Nat.le_trans (List.length_filter_le _ _) ?_;simp
theorem Qrx {P:Tri→Bool}{l:List Tri}{x:Int}:x∈Qic P l↔∃ (i:Nat) (a:Tri),x=(i:Int)∧l[i]?=some a∧P a=true:=by
 unfold Qic;simp only [List.mem_map,List.mem_filter]
 constructor
 · rintro ⟨⟨a,i⟩,⟨h1,h2⟩,rfl⟩
   exact ⟨i,a,rfl,List.mem_zipIdx_iff_getElem?.1 h1,h2⟩
 · rintro ⟨i,a,rfl,h1,h2⟩
   exact ⟨(a,i),⟨List.mem_zipIdx_iff_getElem?.2 h1,h2⟩,rfl⟩
theorem Qku (P:Tri→Bool):∀ l:List Tri,(Qic P l).Pairwise (·<·):=by
 intro l;unfold Qic;rw [List.pairwise_map];refine List.Pairwise.filter _ ?_;rw [List.pairwise_iff_getElem];intro i j hi hj hij;simp;exact hij
def Qaf (l:List Int)(v:Int):Int:=l.getD v.toNat 0
theorem Qbk {l:List Int}{v:Nat}{p:Int} (h:l[v]?=some p):Qaf l (v:Int)=p:=by
 unfold Qaf;rw [Int.toNat_natCast,List.getD_eq_getElem?_getD,h]
 rfl
def Qbw (l:List Int)(a:Tri):Bool:=Qaf l a.1 != Qaf l a.2.1
def Qao (ar:List Tri)(l:List Int):List Int:=Qic (Qbw l) ar
def toC (ar:List Tri)(l:List Int)(a:Int):Int:=Qaf l (ar.getD a.toNat (0,0,0)).2.1
def frC (ar:List Tri)(l:List Int)(a:Int):Int:=Qaf l (ar.getD a.toNat (0,0,0)).1
theorem Qmv {ar:List Tri}{l:List Int}{a:Nat}{x:Tri} (h:ar[a]?=some x):toC ar l (a:Int)=Qaf l x.2.1:=by
 unfold toC;rw [Int.toNat_natCast,List.getD_eq_getElem?_getD,h]
 rfl
theorem Qne {ar:List Tri}{l:List Int}{a:Nat}{x:Tri} (h:ar[a]?=some x):frC ar l (a:Int)=Qaf l x.1:=by
 unfold frC;rw [Int.toNat_natCast,List.getD_eq_getElem?_getD,h]
 rfl
def Qdn (t f:Int→Int)(X:List Int)(n:Nat):List (List Int):=(List.range (n*2)).map (fun i:Nat=>if i % 2=0 then X.filter (fun a=>t a == ((i / 2:Nat):Int)) else X.filter (fun a=>f a == ((i / 2:Nat):Int)))
theorem Qfk (t f:Int→Int)(X:List Int)(n:Nat):(Qdn t f X n).length=n*2:=by simp [Qdn]
theorem Qiy {t f:Int→Int}{X:List Int}{n c:Nat}(h:c<n):(Qdn t f X n)[c*2]?=some (X.filter (fun a=>t a == (c:Int))):=by
 unfold Qdn;rw [List.getElem?_map,List.getElem?_range (by omega)];simp
theorem Qhn {t f:Int→Int}{X:List Int}{n c:Nat}(h:c<n):(Qdn t f X n)[c*2+1]?=some (X.filter (fun a=>f a == (c:Int))):=by
 unfold Qdn;rw [List.getElem?_map,List.getElem?_range (by omega),Option.map_some,if_neg (by omega),show (c*2+1) / 2=c by omega]
theorem Qoq (t f:Int→Int)(n:Nat):Qdn t f [] n=List.replicate (n*2) []:=by
 apply List.ext_getElem?
 intro i
 rcases Nat.lt_or_ge i (n*2) with h|h
 · unfold Qdn
   rw [List.getElem?_map,List.getElem?_range h];simp [h]
 · rw [List.getElem?_eq_none (by rw [Qfk];exact h),List.getElem?_eq_none (by simpa using h)]
theorem Qll {t f:Int→Int}{X:List Int}{n p q:Nat}{a:Int} (hp:t a=(p:Int)) (hq:f a=(q:Int)) (h1:p<n) (h2:q<n) :
 ((Qdn t f X n).set (p*2) (X.filter (fun a=>t a == (p:Int)) ++[a])).set (q*2+1) (X.filter (fun a=>f a == (q:Int)) ++[a])=Qdn t f (X ++[a]) n:=by
 apply List.ext_getElem?
 intro i
 rcases Nat.lt_or_ge i (n*2) with hi|hi
 · have hl:∀ Y,(Qdn t f Y n)[i]?=some (if i % 2=0 then Y.filter (fun a=>t a == ((i / 2:Nat):Int)) else Y.filter (fun a=>f a == ((i / 2:Nat):Int))):=fun Y=>by
    unfold Qdn;rw [List.getElem?_map,List.getElem?_range hi]
    rfl
   by_cases e1:q*2+1=i
   · subst e1
     rw [List.getElem?_set_self (by rw [List.length_set,Qfk];exact hi),Qhn h2,List.filter_append];simp [hq]
   · rw [List.getElem?_set_ne e1]
     by_cases e2:p*2=i
     · subst e2
       rw [List.getElem?_set_self (by rw [Qfk];exact hi),Qiy h1,List.filter_append];simp [hp]
     · rw [List.getElem?_set_ne e2,hl,hl]
       congr 1
       rcases Nat.mod_two_eq_zero_or_one i with h0|h0
       · rw [if_pos h0,if_pos h0,List.filter_append]
         simp [hp];omega
       · rw [if_neg (by omega),if_neg (by omega),List.filter_append]
         simp [hq];omega
 · rw [List.getElem?_eq_none (by rw [List.length_set,List.length_set,Qfk];exact hi),List.getElem?_eq_none (by rw [Qfk];exact hi)]
abbrev Qam:=List Int×List Int
def RdC (w:World)(A:Option Addr)(n:Nat)(row:List Qam):Prop :=
 row.length=n∧∀ c x,row[c]?=some x→∃ b o A1 n1 c1 A2 n2 c2,A=some ⟨b,o,none⟩∧w.cell? ⟨b,o+c*2,none⟩=some (.slice A1 n1 c1)∧RdI w A1 n1 x.1∧w.cell? ⟨b,o+c*2+1,none⟩=some (.slice A2 n2 c2)∧RdI w A2 n2 x.2∧(n1≤c1∧c1≤9223372036854775807)∧n2≤c2∧c2≤9223372036854775807
theorem RdC.le {w w':World}{A:Option Addr}{n:Nat}{row:List Qam}(h:RdC w A n row)(hl:Le w w'):RdC w' A n row :=
 ⟨h.1,fun c x hx=>by
  obtain ⟨b,o,A1,n1,c1,A2,n2,c2,e,h1,h2,h3,h4,h5⟩:=h.2 c x hx;exact ⟨b,o,A1,n1,c1,A2,n2,c2,e,hl _ _ h1,h2.le hl,hl _ _ h3,h4.le hl,h5⟩⟩
theorem RdC.at_ {w:World}{A:Option Addr}{n c:Nat}{row:List Qam}(h:RdC w A n row)(hc:c<n):∃ x b o A1 n1 c1 A2 n2 c2,row[c]?=some x∧A=some ⟨b,o,none⟩∧w.cell? ⟨b,o+c*2,none⟩=some (.slice A1 n1 c1)∧RdI w A1 n1 x.1∧w.cell? ⟨b,o+c*2+1,none⟩=some (.slice A2 n2 c2)∧RdI w A2 n2 x.2∧(n1≤c1∧c1≤9223372036854775807)∧n2≤c2∧c2≤9223372036854775807:=by
 have hl:c<row.length:=by rw [h.1];exact hc
 obtain ⟨b,o,A1,n1,c1,A2,n2,c2,h1⟩:=h.2 c _ (Zg hl);exact ⟨_,b,o,A1,n1,c1,A2,n2,c2,Zg hl,h1⟩
def RdG (w:World)(A:Option Addr)(n:Nat) (gs:List (List Qam)):Prop :=
 gs.length=n∧∀ i row,gs[i]?=some row→∃ b o A' n' c',A=some ⟨b,o,none⟩∧w.cell? ⟨b,o+i,none⟩=some (.slice A' n' c')∧RdC w A' n' row∧n'≤c'∧c'≤9223372036854775807
theorem RdG.le {w w':World}{A:Option Addr}{n:Nat} {gs:List (List Qam)} (h:RdG w A n gs) (hl:Le w w'):RdG w' A n gs :=
 ⟨h.1,fun i row hx=>by
  obtain ⟨b,o,A',n',c',e,h1,h2,h3⟩:=h.2 i row hx;exact ⟨b,o,A',n',c',e,hl _ _ h1,h2.le hl,h3⟩⟩
theorem RdG.at_ {w:World}{A:Option Addr}{n i:Nat} {gs:List (List Qam)} (h:RdG w A n gs) (hi:i<n):∃ row b o A' n' c',gs[i]?=some row∧A=some ⟨b,o,none⟩∧w.cell? ⟨b,o+i,none⟩=some (.slice A' n' c')∧RdC w A' n' row∧n'≤c'∧c'≤9223372036854775807:=by
 have hl:i<gs.length:=by rw [h.1];exact hi
 obtain ⟨b,o,A',n',c',h1⟩:=h.2 i _ (Zg hl);exact ⟨_,b,o,A',n',c',Zg hl,h1⟩
def gateRow (ar:List Tri)(l:List Int):List Qam:=(List.range (Qai l).toNat).map (fun c:Nat=>((Qao ar l).filter (fun a=>toC ar l a == (c:Int)),(Qao ar l).filter (fun a=>frC ar l a == (c:Int))))
theorem Qan (ar:List Tri)(l:List Int):(gateRow ar l).length=(Qai l).toNat:=by simp [gateRow]
theorem Qcq {ar:List Tri}{l:List Int}{c:Nat} (h:c<(Qai l).toNat):(gateRow ar l)[c]?=some ((Qao ar l).filter (fun a=>toC ar l a == (c:Int)),(Qao ar l).filter (fun a=>frC ar l a == (c:Int))):=by
 unfold gateRow;rw [List.getElem?_map,List.getElem?_range h]
 rfl
def gatesOf (ar:List Tri) (ls:List (List Int)):List (List Qam):=ls.map (gateRow ar)
set_option maxHeartbeats 1000000 in
theorem Qti (g a:Nat)(N:Qaj)(A:Option Addr)(n c u v:Nat)(z p q:Int)(l:List Int)(w:World)(h:Qgp w g N)(hr:RdI w A n l) (hx:N.ar[a]?=some ((u:Int),(v:Int),z)) (hu:u<n) (hv:v<n) (hp:l[u]?=some p) (hq:l[v]?=some q) :
 Calls prog 155 #[.pointer (some ⟨g,0,none⟩),.slice A n c,.int .i64 a] w fun e w'=>e=.returned (.tuple #[.int .i64 p,.int .i64 q,.bool true])∧∃ k,w'=w.drewN k:=by
 have HF:=Zh (Qiw g a N _ w h hx);have HT:=Zh (Qnx g a N _ w h hx);obtain ⟨b,o,p',rfl,hp',cp⟩:=hr.at_ hu;rw [hp] at hp'
 cases hp'
 obtain ⟨b',o',q',e,hq',cq⟩:=hr.at_ hv;rw [hq] at hq'
 cases hq'
 cases e
 have i1:(0:Int)≤(u:Int):=by omega
 have i2:(u:Int)<(n:Int):=by omega
 have i3:(0:Int)≤(v:Int):=by omega
 have i4:(v:Int)<(n:Int):=by omega
 clear h hr hx hp hq
 go_enter func155,ntmps155
 go_wp2_with fail
 with_reducible refine HF.out.mono ?_
 rintro e w' ⟨rfl,rfl⟩
 go_wp2_with fail
 with_reducible refine HT.out.mono ?_
 rintro e w' ⟨rfl,rfl⟩
 go_wp2_with fail
 go_quiet (fail)
 go_wp2_with fail
 go_ret3
 exact ⟨rfl,_,rfl⟩
set_option maxHeartbeats 1000000 in
theorem cross_ok (g:Nat)(N:Qaj)(Q:Option Addr)(L cq i n:Nat) (ls:List (List Int)) (l:List Int) (w:World) (h:Qgp w g N) (hN:Qau N) (hq:RdT w Q L ls) (hl:ls[i]?=some l) (hL:L≤1000000) (hlo:Qfb n l) (hn:N.vs.length=n) :
 Calls prog 116 #[.pointer (some ⟨g,0,none⟩),.agg #[.slice Q L cq],.int .i64 ((i:Int)+1)] w fun e w'=>∃ A c,e=.returned (.slice A (Qao N.ar l).length c)∧RdI w' A (Qao N.ar l).length (Qao N.ar l)∧(∀ b,Qab A=some b→w.heap.size≤b∧b<w'.heap.size)∧Below w.heap.size w w':=by
 have HG:=Zh h;have HN:=Zh hN;have hn4:n≤4096:=by rw [←hn];exact hN.lv
 have hm:N.ar.length≤16384:=hN.la;have HR:=Zh (show ∀ V,Below w.heap.size w V→Calls prog 154 #[.agg #[.slice Q L cq],.int .i64 ((i:Int)+1)] V fun e w'=>∃ A n c,e=.returned (.slice A n c)∧RdI V A n l∧n≤c∧c≤9223372036854775807∧Below V.heap.size V w' from fun V hV=>row_ok Q L cq i ls l V (hq.below hV) hl hL)
 have HLO:=Zh hlo;have HVN:=Zh hn;clear h hN hq hl hlo hn
 go_enter func116,ntmps116
 go_wp2_with fail
 (refine Qac ?_;intro w1 hw1)
 have hb1:Below w.heap.size w w1:=by rw [hw1];exact Qae
 clear hw1;with_reducible refine (HR.out w1 hb1).mono ?_
 rintro e w2 ⟨A,n',c,rfl,hr,q1,q2,hb2⟩;obtain rfl:n=n':=by rw [←hr.1];exact HLO.out.len.symm
 have hr2:=hr.below hb2;have hbw2:=Zb hb1 hb2;have hz0:=hbw2.size;clear hr hb2 hb1
 go_wp2_with fail
 with_reducible refine (Qjo g N w2 (HG.out.below hbw2)).mono ?_
 rintro e w' ⟨rfl,rfl⟩
 go_wp2_with fail
 generalize hM:N.ar.length=M at *;have HM:=Zh hM;clear hM
 go_loopw [8,18] (fun x q W=>Below w.heap.size w W∧w2.heap.size≤W.heap.size∧Below w2.heap.size w2 W∧∃ (j:Nat) (X:Option Addr) (k cx:Nat),j≤M∧q=.int .i64 j∧x=.slice X k cx∧k≤j∧Own W w2.heap.size 3 1 X k cx (Qad (Qic (Qbw l) (N.ar.take j)))) (fun _ q _=>M-(intOf q).toNat)
 case atStart=>exact ⟨hbw2,Zn _,Zr _ _,0,none,0,0,Nat.zero_le _,rfl,rfl,Zn _,Own.nil _ _ _ _⟩
 case round =>
  clear hbw2;obtain ⟨hbl,hsz,hb2r,j,X,k,cx,hj,rfl,rfl,hkj,hown⟩:=hrel
  by_cases hlt:j<M
  · obtain ⟨⟨fx,tx,zx⟩,hx⟩:∃ x,N.ar[j]?=some x:=⟨_,Zg (by rw [HM.out];exact hlt)⟩
    have hok:=HN.out.arcs _ (Zm hx);have f0:=hok.f0;have f1:=hok.f1;have g0:=hok.g0;have g1:=hok.g1;simp only at f0 f1 g0 g1;rw [HVN.out] at f1 g1;obtain ⟨u,rfl⟩:∃ u:Nat,fx=u:=⟨fx.toNat,by omega⟩;obtain ⟨v,rfl⟩:∃ v:Nat,tx=v:=⟨tx.toNat,by omega⟩;have hu:u<n:=by omega
    have hv:v<n:=by omega
    obtain ⟨p,hp⟩:∃ p,l[u]?=some p:=⟨_,Zg (by rw [HLO.out.len];exact hu)⟩;obtain ⟨q,hq⟩:∃ q,l[v]?=some q:=⟨_,Zg (by rw [HLO.out.len];exact hv)⟩;have HE:=Zh (Qti g j N A n c u v zx p q l wr (HG.out.below hbl) (hr2.below hb2r) hx hu hv hp hq);have HNX:=Zh (Qkk (P:=Qbw l) hx);have hcb:Qbw l ((u:Int),(v:Int),zx)=(p != q):=by unfold Qbw;simp only;rw [Qbk hp,Qbk hq]
    rw [hcb] at HNX;clear hx hok hcb hp hq
    go_wp2_with fail
    with_reducible refine HE.out.mono ?_
    rintro e w4 ⟨rfl,nq,hw4⟩;have hbl4:Below w.heap.size w w4:=by rw [hw4];exact Qas hbl _
    have hb24:Below w2.heap.size w2 w4:=by rw [hw4];exact Qas hb2r _
    have hsz4:w2.heap.size≤w4.heap.size:=by rw [hw4];exact hsz
    have hown4:Own w4 w2.heap.size 3 1 X k cx (Qad (Qic (Qbw l) (N.ar.take j))):=by rw [hw4];exact hown
    clear hw4 hbl hb2r hsz hown HE
    by_cases hpq:p=q
    · have e1:(p != q)=false:=by simpa using hpq
      have e2:(p == q)=true:=by simpa using hpq
      rw [e1] at HNX;clear hpq
      go_wp2_with fail
      go_roundw
      case rel=>exact ⟨hbl4,hsz4,hb24,j+1,X,k,cx,by omega,by go_num,rfl,by omega,by rw [HNX.out];simpa using hown4⟩
      case measure=>simp [intOf];omega
    · have e1:(p != q)=true:=by simpa using hpq
      have e2:(p == q)=false:=by simpa using hpq
      rw [e1] at HNX;clear hpq;have hlt4:Below w4.heap.size w4 (w4.alloc (.cells #[.int .i64 (j:Int)] 3)):=Qae;have hownA:=hown4.below hlt4;have hrA:Rds (w4.alloc (.cells #[.int .i64 (j:Int)] 3)) 1 (some ⟨w4.heap.size,0,none⟩) 1 (Qad [(j:Int)]):=(Blk.new w4 3 (Qcm [(j:Int)])).rds rfl;have hblA:=Zb hbl4 hlt4;have hb2A:=Zb hb24 hlt4
      go_wp2_with (at_builtin;with_reducible refine Qap rfl (.tmp 35) (.tmp 37) 93 rfl 3 _ 1 8 Qaw underlying93 rfl (by omega) rfl rfl hownA hrA (Qah _) (by omega) (by omega) (by simp;omega) ?_)
      intro A' c' w' hown' hg _;have hbl5:Below w.heap.size w w':=Bel.grownOwn hblA hg (hownA.mono (by omega)) (by simp;omega);have hb25:Below w2.heap.size w2 w':=Bel.grownOwn hb2A hg hownA (by simp;omega);have hsz5:w2.heap.size≤w'.heap.size:=hb25.size;have HO:=Zh hown';clear hown' hg hownA hrA hblA hb2A hlt4 hown4 hbl4 hb24 hsz4
      go_wp2
      go_roundw
      case rel=>exact ⟨hbl5,hsz5,hb25,j+1,A',k+1,c',by omega,by go_num,rfl,by omega,by rw [HNX.out,if_pos trivial,Qbx];exact HO.out⟩
      case measure=>simp [intOf];omega
  · obtain rfl:M=j:=by omega
    rw [List.take_of_length_le (by rw [HM.out];exact Zn _)] at hown;have HO:=Zh hown;have hk:k=(Qao N.ar l).length:=by have:=hown.1;rw [Nat.mul_one] at this;rw [←this];simp [Qad,Qao]
    have HK:=Zh hk;clear hown hk
    go_wp2
    go_ret
    exact ⟨X,cx,by rw [←HK.out];rfl,by rw [←HK.out];exact HO.out.rds.rdI,fun b hb=>by have:=HO.out.lt b hb;omega,hbl⟩
end Go.Proofs.YthoagdpakddbdaaGreatDoor
