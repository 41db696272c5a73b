/- Parts of the proof: Ko, Dn, En, BaP, BkP. -/
import Derived.Test.YthoagdpakddbdaaGreatDoorK1
import Derived.Test.YthoagdpakddbdaaGreatDoorK8
import Derived.Test.YthoagdpakddbdaaGreatDoorK13
namespace Go.Proofs.YthoagdpakddbdaaGreatDoor
open Go.RowKit Go.Proofs.Tryz
attribute [local go_sem ↓] Go.wp_at_zero Go.wp_at_succ
theorem Qtw (o j n:Nat)(cell:Int)(ar:List Tri) (ls:List (List Int)) (row below:List Int) (w:World) (h:Qex w o ar ls) (hr:ls[j+1]?=some row) (hb:ls[j]?=some below) (hL:ls.length≤1000000) (h1:row.length=n) (h2:below.length=n) (hn:n≤1000000) (hne:cell∈row) :
 Calls prog 138 #[.pointer (some ⟨o,0,none⟩),.int .i64 ((j:Int)+1+1),.int .i64 cell] w fun e w'=>∃ A c,e=.returned (.slice A (Qcq row below cell n).length c)∧RdI w' A (Qcq row below cell n).length (Qcq row below cell n)∧(∀ b,Qab A=some b→w.heap.size≤b)∧Below w.heap.size w w':=by
 obtain ⟨Q,F,T,G,S,L,m,cq,cf,ct,cg,cs,h⟩:=h;have h0:=h.n0;have HK:=Zh (kids_own Q L cq j n cell ls row below w h.part hr hb (by rw [←h.part.1];exact hL) h1 h2 hn hne);clear h hr hb hL h1 h2 hn hne;generalize Qcq row below cell n=ks at *
 go_enter func138,ntmps138
 go_wp2_with fail
 with_reducible refine HK.out.mono ?_
 rintro e w' ⟨A,c,rfl,hA,hlt,hbl⟩;have HA:=Zh hA;clear hA
 go_wp2_with fail
 go_ret
 exact ⟨A,c,rfl,HA.out,hlt,hbl⟩
end Go.Proofs.YthoagdpakddbdaaGreatDoor
namespace Go.Proofs.YthoagdpakddbdaaGreatDoor
theorem Qjv {ar:List Tri}{l:List Int}{c:Nat}{x:Qal} (hx:(gateRow ar l)[c]?=some x) {y:Int}:y∈x.1↔y∈Qax ar l∧toC ar l y=(c:Int):=by
 have hc:c<(Qam l).toNat:=by rw [←Qan ar l];exact (Zs hx).1
 rw [Qce hc] at hx
 cases hx
 simp only [List.mem_filter,beq_iff_eq]
theorem Qoo {ar:List Tri}{l:List Int}{c:Nat}{x:Qal} (hx:(gateRow ar l)[c]?=some x) {y:Int}:y∈x.2↔y∈Qax ar l∧frC ar l y=(c:Int):=by
 have hc:c<(Qam l).toNat:=by rw [←Qan ar l];exact (Zs hx).1
 rw [Qce hc] at hx
 cases hx
 simp only [List.mem_filter,beq_iff_eq]
theorem Qfa {ar:List Tri}{l:List Int}{y:Int}:y∈Qax ar l↔∃ (a:Nat) (t:Tri),y=(a:Int)∧ar[a]?=some t∧Qaf l t.1≠Qaf l t.2.1:=by
 unfold Qax Qpd;rw [List.mem_map]
 constructor
 · rintro ⟨p,hp,rfl⟩
   obtain ⟨h1,h2⟩:=List.mem_filter.1 hp;refine ⟨p.2,p.1,rfl,(List.mem_zipIdx_iff_getElem?.1 h1),?_⟩
   simpa [Qga] using h2
 · rintro ⟨a,t,rfl,h1,h2⟩
   exact ⟨(t,a),List.mem_filter.2 ⟨List.mem_zipIdx_iff_getElem?.2 h1,by simpa [Qga] using h2⟩,rfl⟩
theorem Qcu {l:List Int}{v:Nat}(h:v<l.length):l[v]?=some (Qaf l (v:Int)):=by
 rw [Qbr (Zg h),Zg h]
theorem Qhq {ar:List Tri}{n:Nat}{l:List Int}(hl:Qen n l){z:Int}(hz:z∈l):∃ q:Nat,z=(q:Int)∧∃ y,(gateRow ar l)[q]?=some y:=by
 have h0:=hl.lo z hz;have h1:=Qlz hz;exact ⟨z.toNat,by omega,_,Qce (by omega)⟩
theorem Qge {l lb:List Int}{n u v:Nat}(hn:Qdj lb l)(h1:l.length=n)(h2:lb.length=n)(hu:u<n)(hv:v<n) (h:Qaf l (u:Int)≠Qaf l (v:Int)):Qaf lb (u:Int)≠Qaf lb (v:Int):=by
 intro e;have a1:=Qcu (l:=l) (v:=u) (by omega);have a2:=Qcu (l:=l) (v:=v) (by omega);have b1:=Qcu (l:=lb) (v:=u) (by omega);have b2:=Qcu (l:=lb) (v:=v) (by omega);have c1:=hn u v _ _ _ _ b1 b2 a1 a2 (by omega);have c2:=hn v u _ _ _ _ b2 b1 a2 a1 (by omega);exact h (by omega)
theorem Qrv {n c:Nat}{l:List Int}(hl:Qen n l) (hc:c<(Qam l).toNat):(c:Int)∈l:=hl.all c (by omega)
end Go.Proofs.YthoagdpakddbdaaGreatDoor
namespace Go.Proofs.YthoagdpakddbdaaGreatDoor
open Go.RowKit Go.Proofs.Tryz
theorem Qhe {l:List Int}{c:Int}{v:Int}(h:v.toNat<l.length):(Qdz l c).getD v.toNat false=true↔Qaf l v=c:=by
 unfold Qdz Qaf;rw [List.getD_eq_getElem?_getD,List.getD_eq_getElem?_getD,List.getElem?_map,Zg h];simp
theorem Qed {N:Qaj}(hok:Qas N){l:List Int}(hl:l.length=N.vs.length){c:Int}{a b:Nat}{d:Int}:StA N (Qdz l c) a b d ↔
 ∃ x y,N.ar[a]?=some x∧N.ar[b]?=some y∧x.2.1=y.1∧Qaw N a b≠1152921504606846976∧y.2.2≠1152921504606846976∧Qaf l y.1=c∧Qaf l y.2.1=c∧d=Qaw N a b+y.2.2:=by
 constructor
 · rintro ⟨y,hy,h1,h2,h3,h4,h5⟩
   obtain ⟨x,y',hx,hy',e⟩:=Qcg h1;rw [hy] at hy'
   cases hy'
   have ho:=hok.arcs y (Zm hy);have f0:=ho.f0;have f1:=ho.f1;have g0:=ho.g0;have g1:=ho.g1;exact ⟨x,y,hx,hy,e,h1,h2,(Qhe (by omega)).1 h3,(Qhe (by omega)).1 h4,h5⟩
 · rintro ⟨x,y,hx,hy,e,h1,h2,h3,h4,h5⟩
   have ho:=hok.arcs y (Zm hy);have f0:=ho.f0;have f1:=ho.f1;have g0:=ho.g0;have g1:=ho.g1;exact ⟨y,hy,h1,h2,(Qhe (by omega)).2 h3,(Qhe (by omega)).2 h4,h5⟩
def toV (N:Qaj)(a:Nat):Int:=(N.ar.getD a (0,0,0)).2.1
def frV (N:Qaj)(a:Nat):Int:=(N.ar.getD a (0,0,0)).1
def wV (N:Qaj)(a:Nat):Int:=(N.ar.getD a (0,0,0)).2.2
theorem Qcp {N:Qaj}{a:Nat}{x:Tri} (h:N.ar[a]?=some x):toV N a=x.2.1∧frV N a=x.1∧wV N a=x.2.2:=by
 unfold toV frV wV;rw [List.getD_eq_getElem?_getD,h];exact ⟨rfl,rfl,rfl⟩
theorem Qds {N:Qaj}{l:List Int}{c:Nat}{x:Qal} (hx:(gateRow N.ar l)[c]?=some x) {a:Nat}:(a:Int)∈x.1↔∃ y,N.ar[a]?=some y∧Qaf l y.1≠c∧Qaf l y.2.1=c:=by
 rw [Qjv hx,Qfa]
 constructor
 · rintro ⟨⟨a',t,e,h1,h2⟩,h3⟩
   have:a'=a:=by omega
   subst this;rw [Qpm h1] at h3;exact ⟨t,h1,by rw [←h3];exact h2,h3⟩
 · rintro ⟨t,h1,h2,h3⟩
   exact ⟨⟨a,t,rfl,h1,by rw [h3];exact h2⟩,by rw [Qpm h1];exact h3⟩
theorem Qcc {N:Qaj}{l:List Int}{c:Nat}{x:Qal} (hx:(gateRow N.ar l)[c]?=some x) {a:Nat}:(a:Int)∈x.2↔∃ y,N.ar[a]?=some y∧Qaf l y.1=c∧Qaf l y.2.1≠c:=by
 rw [Qoo hx,Qfa]
 constructor
 · rintro ⟨⟨a',t,e,h1,h2⟩,h3⟩
   have:a'=a:=by omega
   subst this;rw [Qos h1] at h3;exact ⟨t,h1,h3,by rw [←h3];exact fun e=>h2 e.symm⟩
 · rintro ⟨t,h1,h2,h3⟩
   exact ⟨⟨a,t,rfl,h1,by rw [h2];exact fun e=>h3 e.symm⟩,by rw [Qos h1];exact h2⟩
/-! By arcs: each place an arc. -/
structure Qpv (N:Qaj) (l:List Int) (c:Nat) (x:Qal) (arcs:List Nat) (L:Nat→List Stp):Prop where
 at_:∀ a∈arcs,∃ y,N.ar[a]?=some y∧Qaf l y.2.1=c
 snd:∀ p a,arcs[p]?=some a→∀ s∈L p,∃ b,Qaw N a b≠1152921504606846976∧((∃ k:Nat,x.2[k]?=some (b:Int)∧s.2.1=(k:Int)∧s.2.2=Qaw N a b)∨((b:Int) ∉ x.2∧wV N b≠1152921504606846976∧s.2.1<0∧arcs[s.1]?=some b∧s.2.2=Qaw N a b+wV N b))
 outC:∀ p a b (k:Nat),arcs[p]?=some a→Qaw N a b≠1152921504606846976→x.2[k]?=some (b:Int)→∃ s∈L p,s.2.1=(k:Int)∧s.2.2=Qaw N a b
 toC:∀ p a b,arcs[p]?=some a→Qaw N a b≠1152921504606846976→(b:Int) ∉ x.2→wV N b≠1152921504606846976→∃ s∈L p,s.2.1<0∧arcs[s.1]?=some b∧s.2.2=Qaw N a b+wV N b
section
variable {N:Qaj} {l:List Int} {c:Nat} {x:Qal} {arcs:List Nat} {L:Nat→List Stp}
theorem Qpv.fwd (h:Qpv N l c x arcs L)(hok:Qas N)(hl:l.length=N.vs.length) (hx:(gateRow N.ar l)[c]?=some x) {i s:Nat} (hi:arcs[i]?=some s) {p:Nat} {d:Int} (hr:Rch (StF L) i p d) :
 ∃ a,arcs[p]?=some a∧Rch (StA N (Qdz l c)) s a d:=by
 induction hr with
 | start=>exact ⟨s,hi,.start⟩
 | @step p q d e _ h2 ih =>
  obtain ⟨a,ha,hr⟩:=ih;obtain ⟨t,ht,h3,rfl,rfl⟩:=h2;obtain ⟨b,h4,h5⟩:=h.snd p a ha t ht
  rcases h5 with ⟨k,_,h6,_⟩|⟨h6,h7,_,h8,h9⟩
  · omega
  · refine ⟨b,h8,hr.step ((Qed hok hl).2 ?_)⟩
    obtain ⟨xa,y,hxa,hy,e⟩:=Qcg h4;rw [(Qcp hy).2.2] at h7 h9;obtain ⟨xa',hxa',hc⟩:=h.at_ a (Zm ha);rw [hxa] at hxa'
    cases hxa'
    refine ⟨xa,y,hxa,hy,e,h4,h7,by rw [←e];exact hc,?_,h9⟩
    apply Classical.byContradiction
    intro hn;exact h6 ((Qcc hx).2 ⟨y,hy,by rw [←e];exact hc,hn⟩)
theorem Qpv.bwd (h:Qpv N l c x arcs L)(hok:Qas N)(hl:l.length=N.vs.length) (hx:(gateRow N.ar l)[c]?=some x) {i s:Nat} (hi:arcs[i]?=some s) {a:Nat} {d:Int} (hr:Rch (StA N (Qdz l c)) s a d) :
 ∃ p,arcs[p]?=some a∧Rch (StF L) i p d:=by
 induction hr with
 | start=>exact ⟨i,hi,.start⟩
 | @step a b d e _ h2 ih =>
  obtain ⟨p,ha,hr⟩:=ih;obtain ⟨xa,y,hxa,hy,e,h4,h7,h8,h9,rfl⟩:=(Qed hok hl).1 h2;have hw:=(Qcp hy).2.2
  obtain ⟨t,ht,h10,h11,h12⟩:=h.toC p a b ha h4 (fun hm=>by
   obtain ⟨y',hy',_,h13⟩:=(Qcc hx).1 hm;rw [hy] at hy'
   cases hy'
   exact h13 h9) (by rw [hw];exact h7)
  exact ⟨t.1,h11,hr.step ⟨t,ht,h10,rfl,by rw [h12,hw]⟩⟩
theorem Qpv.entry (h:Qpv N l c x arcs L)(hok:Qas N)(hl:l.length=N.vs.length) (hx:(gateRow N.ar l)[c]?=some x) {i s k t:Nat} (hi:arcs[i]?=some s) (hk:x.2[k]?=some (t:Int)) {v:Int} (hv:Lst (Qtl (StF L) (OuF L) i k) v) :
 Qhk N (Qdz l c) s t v:=by
 have hinj:∀ (b k':Nat),x.2[k']?=some (b:Int)→k'=k→b=t:=fun b k' h1 e=>by
  subst e;rw [hk] at h1;have:=Option.some.inj h1;omega
 refine hv.conv (fun d hd=>?_) (fun d hd=>?_)
 · obtain ⟨p,d1,d2,h1,⟨u,hu,h2,h3⟩,rfl⟩:=hd
   obtain ⟨a,ha,hr⟩:=h.fwd hok hl hx hi h1;obtain ⟨b,h4,h5⟩:=h.snd p a ha u hu
   rcases h5 with ⟨k',h6,h7,h8⟩|⟨_,_,h6,_⟩
   · have hb:=hinj b k' h6 (by omega)
     subst hb;exact ⟨_,⟨a,d1,_,hr,⟨h4,rfl⟩,rfl⟩,by omega⟩
   · omega
 · obtain ⟨a,d1,d2,h1,⟨h2,h3⟩,rfl⟩:=hd
   obtain ⟨p,ha,hr⟩:=h.bwd hok hl hx hi h1;obtain ⟨u,hu,h4,h5⟩:=h.outC p a t k ha h2 hk;exact ⟨_,⟨p,d1,_,hr,⟨u,hu,h4,rfl⟩,rfl⟩,by omega⟩
theorem Qpv.bound (h:Qpv N l c x arcs L)(hok:Qas N)(hl:l.length=N.vs.length) (hx:(gateRow N.ar l)[c]?=some x) {i s:Nat} (hi:arcs[i]?=some s) (hnd:arcs.Nodup) (p:Nat) (d:Int) (hr:Rch (StF L) i p d):∃ e,Rch (StF L) i p e∧e≤MB:=by
 obtain ⟨a,ha,h1⟩:=h.fwd hok hl hx hi hr;obtain ⟨e,h2,h3⟩:=Qjw hok a d h1;obtain ⟨q,hq,h4⟩:=h.bwd hok hl hx hi h2;have:q=p:=(List.getElem?_inj (Zs hq).1 hnd).1 (hq.trans ha.symm);subst this;exact ⟨e,h4,h3⟩
end
/-! By kids: each place an arc that enters a kid. -/
def StC (N:Qaj)(lb:List Int)(x:Qal):Qbl:=fun a m d=>∃ v,(∃ y z,N.ar[a]?=some y∧N.ar[m]?=some z∧Qaf lb y.1≠Qaf lb y.2.1∧Qaf lb z.1=Qaf lb y.2.1∧Qaf lb z.2.1≠Qaf lb y.2.1∧z.2.2≠1152921504606846976∧d=v+z.2.2 ∧
 Qhk N (Qdz lb (Qaf lb y.2.1)) a m v)∧v≠1152921504606846976∧(m:Int) ∉ x.2
def OuC (N:Qaj)(lb:List Int)(x:Qal):Qbl:=fun a m v=>(∃ y z,N.ar[a]?=some y∧N.ar[m]?=some z∧Qaf lb y.1≠Qaf lb y.2.1∧Qaf lb z.1=Qaf lb y.2.1∧Qaf lb z.2.1≠Qaf lb y.2.1 ∧
 Qhk N (Qdz lb (Qaf lb y.2.1)) a m v)∧v≠1152921504606846976∧(m:Int)∈x.2
def StK (N:Qaj)(l lb:List Int)(c:Nat):Qbl:=fun a b d=>StA N (Qdz l c) a b d∧Qaf lb (frV N b)=Qaf lb (toV N b)
section
variable {N:Qaj} {l lb:List Int} {c:Nat} {x:Qal}
theorem Qwd (hok:Qas N)(hl:l.length=N.vs.length)(hb:lb.length=N.vs.length){a p:Nat}{y:Tri}{d:Int} (hy:N.ar[a]?=some y) (hr:Rch (StK N l lb c) a p d) :
 Rch (StA N (Qdz lb (Qaf lb y.2.1))) a p d∧∃ z,N.ar[p]?=some z∧Qaf lb z.2.1=Qaf lb y.2.1:=by
 induction hr with
 | start=>exact ⟨.start,y,hy,rfl⟩
 | @step p q d e _ h2 ih =>
  obtain ⟨ih,z,hz,hc⟩:=ih;obtain ⟨h3,h4⟩:=h2;obtain ⟨z',w,hz',hw,e1,h5,h6,h7,h8,rfl⟩:=(Qed hok hl).1 h3;rw [hz] at hz'
  cases hz'
  obtain ⟨t1,t2,t3⟩:=Qcp hw;rw [t1,t2] at h4;refine ⟨ih.step ((Qed hok hb).2 ⟨z,w,hz,hw,e1,h5,h6,by rw [←e1];exact hc,?_,rfl⟩),w,hw,?_⟩
  · rw [←h4,←e1];exact hc
  · rw [←h4,←e1];exact hc
theorem Qmr (hok:Qas N)(hl:l.length=N.vs.length)(hb:lb.length=N.vs.length)(hn:Qdj lb l){y z:Tri}(hy:y∈N.ar)(u v:Int)(hu:u=y.2.1)(hv:v=z.2.1∨v=z.1)(hz:z∈N.ar)(h:Qaf lb u=Qaf lb v):Qaf l u=Qaf l v:=by
 have o1:=hok.arcs y hy;have o2:=hok.arcs z hz;have a0:=o1.g0;have a1:=o1.g1;have b0:=o2.g0;have b1:=o2.g1;have c0:=o2.f0;have c1:=o2.f1
 apply Classical.byContradiction
 intro hne;have hu0:0≤u∧u<N.vs.length:=by subst hu;exact ⟨a0,a1⟩
 have hv0:0≤v∧v<N.vs.length:=by rcases hv with rfl|rfl <;> omega
 obtain ⟨u',rfl⟩:∃ u':Nat,u=(u':Int):=⟨u.toNat,by omega⟩;obtain ⟨v',rfl⟩:∃ v':Nat,v=(v':Int):=⟨v.toNat,by omega⟩;exact Qge hn hl hb (by omega) (by omega) hne h
theorem Qui (hok:Qas N)(hl:l.length=N.vs.length)(hb:lb.length=N.vs.length)(hn:Qdj lb l){a p:Nat}{y:Tri}{d:Int} (hy:N.ar[a]?=some y) (hc:Qaf l y.2.1=c) (hr:Rch (StA N (Qdz lb (Qaf lb y.2.1))) a p d) :
 Rch (StK N l lb c) a p d:=by
 induction hr with
 | start=>exact .start
 | @step p q d e _ h2 ih =>
  obtain ⟨z,w,hz,hw,e1,h5,h6,h7,h8,rfl⟩:=(Qed hok hb).1 h2;have m1:=Zm hy;have m2:=Zm hw;obtain ⟨t1,t2,t3⟩:=Qcp hw;refine ih.step ⟨(Qed hok hl).2 ⟨z,w,hz,hw,e1,h5,h6,?_,?_,rfl⟩,by rw [t1,t2,h7,h8]⟩
  · rw [←Qmr hok hl hb hn m1 y.2.1 w.1 rfl (.inr rfl) m2 h7.symm];exact hc
  · rw [←Qmr hok hl hb hn m1 y.2.1 w.2.1 rfl (.inl rfl) m2 h8.symm];exact hc
def Qeb (N:Qaj)(l lb:List Int)(c:Nat)(a:Nat):Prop:=∃ y,N.ar[a]?=some y∧Qaf lb y.1≠Qaf lb y.2.1∧Qaf l y.2.1=c
theorem nested (hok:Qas N)(hl:l.length=N.vs.length)(hb:lb.length=N.vs.length)(hn:Qdj lb l) (hx:(gateRow N.ar l)[c]?=some x)
 (hE:∀ a m y z,Qeb N l lb c a→N.ar[a]?=some y→N.ar[m]?=some z→Qaf lb z.1=Qaf lb y.2.1→Qaf lb z.2.1≠Qaf lb y.2.1→∃ v,Qhk N (Qdz lb (Qaf lb y.2.1)) a m v) {k:Nat} (hk:(k:Int)∈x.2) :
 Qjb (StA N (Qdz l c)) (fun a t d=>OuA N a t d∧t=k) (StK N l lb c) (fun a m v=>∃ y,N.ar[a]?=some y∧Qhk N (Qdz lb (Qaf lb y.2.1)) a m v) (fun a m d=>StC N lb x a m d∧Qeb N l lb c a∧Qeb N l lb c m) (fun a t d=>OuC N lb x a t d∧Qeb N l lb c a∧t=k) (Qeb N l lb c) (wV N) (OuA N) where
 sub:=fun p q d h=>h.1
 split:=fun p q d h=>by
  obtain ⟨z,w,hz,hw,e1,h5,h6,h7,h8,rfl⟩:=(Qed hok hl).1 h;obtain ⟨t1,t2,t3⟩:=Qcp hw
  by_cases hc:Qaf lb w.1=Qaf lb w.2.1
  · exact .inl ⟨h,by rw [t1,t2];exact hc⟩
  · have:=(Qhy (hok.arcs w (Zm hw)).w).resolve_left h6
    exact .inr ⟨⟨w,hw,hc,h8⟩,_,⟨h5,rfl⟩,by rw [t3],by rw [t3];exact this.1⟩
 join:=fun a p q c' t _ _ h1 ⟨d,h2,_⟩=>by
  obtain ⟨z,w,hz,hw,e1,h5,h6,h7,h8,rfl⟩:=(Qed hok hl).1 h2;obtain ⟨t1,t2,t3⟩:=Qcp hw;obtain ⟨_,rfl⟩:=h1;rw [t3];exact h2
 cst:=fun a q d h=>by
  obtain ⟨⟨v,⟨y,z,hy,hz,h1,h2,h3,h4,rfl,h5⟩,h6,h7⟩,h8,h9⟩:=h;refine ⟨h8,h9,v,⟨y,hy,h5⟩,by rw [(Qcp hz).2.2],?_⟩
  rcases h5 with ⟨⟨p,c1,t,g1,g2,rfl⟩,_⟩|⟨g,_⟩
  · obtain ⟨y',hy',_,hcy⟩:=h8
    rw [hy] at hy'
    cases hy'
    refine ⟨p,c1,t,Qui hok hl hb hn hy hcy g1,g2,rfl,?_⟩;obtain ⟨g3,rfl⟩:=g2;obtain ⟨w,z',hw,hz',e⟩:=Qcg g3;rw [hz] at hz'
    cases hz'
    obtain ⟨z',hz',_,hcz⟩:=h9;rw [hz] at hz'
    cases hz'
    have m1:=Zm hy;have m2:=Zm hz;refine (Qed hok hl).2 ⟨w,z,hw,hz,e,g3,h4,?_,hcz,by rw [(Qcp hz).2.2]⟩;rw [←Qmr hok hl hb hn m1 y.2.1 z.1 rfl (.inr rfl) m2 h2.symm];exact hcy
  · exact absurd g h6
 cst2:=fun a p q c' t hin hr ht hq hst hns=>by
  obtain ⟨y,hy,h1,h2⟩:=hin;obtain ⟨g1,u,hu,g2⟩:=Qwd hok hl hb hy hr;obtain ⟨z,w,hz,hw,e1,h5,h6,h7,h8,h9⟩:=(Qed hok hl).1 hst;rw [hu] at hz
  cases hz
  obtain ⟨t1,t2,t3⟩:=Qcp hw;have hne:Qaf lb w.1≠Qaf lb w.2.1:=fun e=>hns ⟨hst,by rw [t1,t2];exact e⟩
  have hf:Qaf lb w.1=Qaf lb y.2.1:=by rw [←e1];exact g2
  obtain ⟨v,hv⟩:=hE a q y w ⟨y,hy,h1,h2⟩ hy hw hf (by rw [←hf];exact fun e=>hne e.symm)
  have hle:v≤c'+t∧v≠1152921504606846976:=by
   rcases hv with ⟨⟨p',c1,t',k1,k2,rfl⟩,k3⟩|⟨_,k3⟩
   · refine ⟨k3 _ ⟨p,c',t,g1,ht,rfl⟩,?_⟩
     have b1:=(Qhk.bd hok (N:=N) (v:=c1+t') (s:=a) (t:=q) (mk:=Qdz lb (Qaf lb y.2.1)) (.inl ⟨⟨p',c1,t',k1,k2,rfl⟩,k3⟩));obtain ⟨e,h10,h11⟩:=Qjw hok p' c1 k1;have b2:=OuA.bd hok k2;have:=k3 _ ⟨p',e,t',h10,k2,rfl⟩;unfold MB at h11;omega
   · exact absurd ⟨p,c',t,g1,ht,rfl⟩ (k3 _)
  refine ⟨v+w.2.2,⟨⟨v,⟨y,w,hy,hw,h1,hf,by rw [←hf];exact fun e=>hne e.symm,h6,rfl,hv⟩,hle.2,fun hm=>?_⟩,⟨y,hy,h1,h2⟩,hq⟩,by rw [t3];omega⟩;obtain ⟨w',hw',_,hn'⟩:=(Qcc hx).1 hm;rw [hw] at hw'
  cases hw'
  exact hn' h8
 cout:=fun a k' d h=>by
  obtain ⟨⟨⟨y,z,hy,hz,h1,h2,h3,h5⟩,h6,h7⟩,h8,rfl⟩:=h
  rcases h5 with ⟨⟨p,c1,t,g1,g2,rfl⟩,_⟩|⟨g,_⟩
  · obtain ⟨y',hy',_,hcy⟩:=h8
    rw [hy] at hy'
    cases hy'
    exact ⟨p,c1,t,Qui hok hl hb hn hy hcy g1,⟨g2,rfl⟩,rfl⟩
  · exact absurd g h6
 cout2:=fun a p k' c' t hin hr ht=>by
  obtain ⟨ht,rfl⟩:=ht;obtain ⟨y,hy,h1,h2⟩:=hin;obtain ⟨g1,u,hu,g2⟩:=Qwd hok hl hb hy hr;obtain ⟨w,z,hw,hz,e⟩:=Qcg ht.1;rw [hu] at hw
  cases hw
  have hf:Qaf lb z.1=Qaf lb y.2.1:=by rw [←e];exact g2
  obtain ⟨z',hz',k1,k2⟩:=(Qcc hx).1 hk;rw [hz] at hz'
  cases hz'
  have hne:Qaf lb z.2.1≠Qaf lb y.2.1:=fun e2=>by
   have m1:=Zm hy;have m2:=Zm hz;have:=Qmr hok hl hb hn m1 y.2.1 z.2.1 rfl (.inl rfl) m2 e2.symm;exact k2 (this.symm.trans h2)
  obtain ⟨v,hv⟩:=hE a k' y z ⟨y,hy,h1,h2⟩ hy hz hf hne
  have hle:v≤c'+t∧v≠1152921504606846976:=by
   rcases hv with ⟨⟨p',c1,t',j1,j2,rfl⟩,k3⟩|⟨_,k3⟩
   · refine ⟨k3 _ ⟨p,c',t,g1,ht,rfl⟩,?_⟩
     obtain ⟨e,h10,h11⟩:=Qjw hok p' c1 j1;have b2:=OuA.bd hok j2;have:=k3 _ ⟨p',e,t',h10,j2,rfl⟩;unfold MB at h11;omega
   · exact absurd ⟨p,c',t,g1,ht,rfl⟩ (k3 _)
  exact ⟨v,⟨⟨⟨y,z,hy,hz,h1,hf,hne,hv⟩,hle.2,hk⟩,⟨y,hy,h1,h2⟩,rfl⟩,hle.1⟩
end
structure StO (N:Qaj) (x:Qal) (arcs:List Nat) (a:Nat) (Gone:Nat→Prop) (l:List Stp):Prop where
 snd:∀ s∈l,∃ b,Qaw N a b≠1152921504606846976∧((∃ k:Nat,x.2[k]?=some (b:Int)∧s.2.1=(k:Int)∧s.2.2=Qaw N a b)∨((b:Int) ∉ x.2∧wV N b≠1152921504606846976∧s.2.1<0∧arcs[s.1]?=some b∧s.2.2=Qaw N a b+wV N b))
 outC:∀ b (k:Nat),Gone b→Qaw N a b≠1152921504606846976→x.2[k]?=some (b:Int)→∃ s∈l,s.2.1=(k:Int)∧s.2.2=Qaw N a b
 toC:∀ b,Gone b→Qaw N a b≠1152921504606846976→(b:Int) ∉ x.2→wV N b≠1152921504606846976→∃ s∈l,s.2.1<0∧arcs[s.1]?=some b∧s.2.2=Qaw N a b+wV N b
section
variable {N:Qaj} {x:Qal} {arcs:List Nat} {a b:Nat} {Gone:Nat→Prop} {l:List Stp}
theorem StO.nil (N:Qaj)(x:Qal)(arcs:List Nat)(a:Nat):StO N x arcs a (fun _=>False) []:=⟨fun s h=>(by cases h),fun b k h=>h.elim,fun b h=>h.elim⟩
theorem StO.gone {G':Nat→Prop}(h:StO N x arcs a Gone l)(hg:∀ b,G' b→Qaw N a b≠1152921504606846976→Gone b):StO N x arcs a G' l :=
 ⟨h.snd,fun b k g t e=>h.outC b k (hg b g t) t e,fun b g t=>h.toC b (hg b g t) t⟩
theorem StO.more (h:StO N x arcs a Gone l)(z:Nat):StO N x (arcs ++[z]) a Gone l:=by
 have key:∀ {i:Nat} {b:Nat},arcs[i]?=some b→(arcs ++[z])[i]?=some b:=fun {i b} h=>by
  rw [List.getElem?_append_left (Zs h).1];exact h
 refine ⟨fun s hs=>?_,h.outC,fun b g t m w=>?_⟩
 · obtain ⟨b,h1,h2⟩:=h.snd s hs
   exact ⟨b,h1,h2.imp id (fun ⟨k1,k2,k3,k4,k5⟩=>⟨k1,k2,k3,key k4,k5⟩)⟩
 · obtain ⟨s,h1,h2,h3,h4⟩:=h.toC b g t m w
   exact ⟨s,h1,h2,key h3,h4⟩
theorem StO.skip (h:StO N x arcs a Gone l) (hb:Qaw N a b=1152921504606846976∨((b:Int) ∉ x.2∧wV N b=1152921504606846976)):StO N x arcs a (fun q=>Gone q∨q=b) l:=by
 refine ⟨h.snd,fun q k g t e=>?_,fun q g t m w=>?_⟩
 · rcases g with g|rfl
   · exact h.outC q k g t e
   · rcases hb with hb|hb
     · exact absurd hb t
     · exact absurd (Zm e) hb.1
 · rcases g with g|rfl
   · exact h.toC q g t m w
   · rcases hb with hb|hb
     · exact absurd hb t
     · exact absurd hb.2 w
theorem Qmf {l:List Int} (h:l.Pairwise (·<·)) {i j:Nat} {v:Int} (hi:l[i]?=some v) (hj:l[j]?=some v):i=j:=by
 have h1:=Qfm h hi;have h2:=Qfm h hj;rw [h1] at h2;omega
theorem StO.out (h:StO N x arcs a Gone l) (hs:x.2.Pairwise (·<·)) (ht:Qaw N a b≠1152921504606846976) {k:Nat} (hk:x.2[k]?=some (b:Int)):StO N x arcs a (fun q=>Gone q∨q=b) (l ++[(0,(k:Int),Qaw N a b)]):=by
 refine ⟨fun s hs=>?_,fun q k' g t e=>?_,fun q g t m w=>?_⟩
 · rcases List.mem_append.1 hs with hs|hs
   · exact h.snd s hs
   · obtain rfl:=List.mem_singleton.1 hs
     exact ⟨b,ht,.inl ⟨k,hk,rfl,rfl⟩⟩
 · rcases g with g|rfl
   · obtain ⟨s,h1,h2⟩:=h.outC q k' g t e
     exact ⟨s,List.mem_append_left _ h1,h2⟩
   · obtain rfl:=Qmf hs hk e
     exact ⟨_,List.mem_append_right _ (List.mem_singleton.2 rfl),rfl,rfl⟩
 · rcases g with g|rfl
   · obtain ⟨s,h1,h2⟩:=h.toC q g t m w
     exact ⟨s,List.mem_append_left _ h1,h2⟩
   · exact absurd (Zm hk) m
theorem StO.to (h:StO N x arcs a Gone l)(ht:Qaw N a b≠1152921504606846976) (hm:(b:Int) ∉ x.2) (hw:wV N b≠1152921504606846976) {p:Nat} (hp:arcs[p]?=some b):StO N x arcs a (fun q=>Gone q∨q=b) (l ++[(p,-1,Qaw N a b+wV N b)]):=by
 refine ⟨fun s hs=>?_,fun q k' g t e=>?_,fun q g t m w=>?_⟩
 · rcases List.mem_append.1 hs with hs|hs
   · exact h.snd s hs
   · obtain rfl:=List.mem_singleton.1 hs
     exact ⟨b,ht,.inr ⟨hm,hw,(by decide:(-1:Int)<0),hp,rfl⟩⟩
 · rcases g with g|rfl
   · obtain ⟨s,h1,h2⟩:=h.outC q k' g t e
     exact ⟨s,List.mem_append_left _ h1,h2⟩
   · exact absurd (Zm e) hm
 · rcases g with g|rfl
   · obtain ⟨s,h1,h2⟩:=h.toC q g t m w
     exact ⟨s,List.mem_append_left _ h1,h2⟩
   · exact ⟨_,List.mem_append_right _ (List.mem_singleton.2 rfl),(by decide:(-1:Int)<0),hp,rfl⟩
end
structure Qif (N:Qaj) (l:List Int) (c:Nat) (arcs:List Nat) (f:Nat→Option Nat):Prop where
 at_:∀ a∈arcs,∃ y,N.ar[a]?=some y∧Qaf l y.2.1=c
 map:∀ b p,f b=some p↔arcs[p]?=some b
theorem Qif.nodup {N:Qaj}{l:List Int}{c:Nat}{arcs:List Nat}{f:Nat→Option Nat}(h:Qif N l c arcs f):arcs.Nodup:=by
 rw [List.Nodup,List.pairwise_iff_getElem];intro i j hi hj hij e;have h1:=(h.map (arcs[i]) i).2 (Zg hi);have h2:=(h.map (arcs[i]) j).2 (by rw [Zg hj,e]);rw [h1] at h2
 injection h2 with h2
 omega
theorem Qif.len {N:Qaj}{l:List Int}{c:Nat}{arcs:List Nat}{f:Nat→Option Nat}(h:Qif N l c arcs f):arcs.length≤N.ar.length :=
 Qik N.ar.length arcs h.nodup (fun a ha=>by obtain ⟨y,hy,_⟩:=h.at_ a ha;exact (Zs hy).1)
theorem Qif.push {N:Qaj}{l:List Int}{c b:Nat}{arcs:List Nat}{f:Nat→Option Nat}(h:Qif N l c arcs f){y:Tri} (hy:N.ar[b]?=some y) (hc:Qaf l y.2.1=c) (hno:f b=none):Qif N l c (arcs ++[b]) (fun q=>if q=b then some arcs.length else f q):=by
 refine ⟨fun a ha=>?_,fun q p=>?_⟩
 · rcases List.mem_append.1 ha with ha|ha
   · exact h.at_ a ha
   · obtain rfl:=List.mem_singleton.1 ha
     exact ⟨y,hy,hc⟩
 · by_cases e:q=b
   · subst e
     rw [if_pos rfl]
     constructor
     · intro e2;injection e2 with e2;subst e2;rw [List.getElem?_append_right (Zn _),Nat.sub_self];rfl
     · intro e2
       rcases Nat.lt_trichotomy p arcs.length with h1|h1|h1
       · rw [List.getElem?_append_left h1] at e2
         have:=(h.map q p).2 e2;rw [hno] at this
         cases this
       · rw [h1]
       · rw [List.getElem?_eq_none (by simp;omega)] at e2
         cases e2
   · rw [if_neg e]
     rw [h.map]
     rcases Nat.lt_trichotomy p arcs.length with h1|h1|h1
     · rw [List.getElem?_append_left h1]
     · subst h1
       rw [List.getElem?_append_right (Zn _),Nat.sub_self,List.getElem?_eq_none (Zn _)]
       constructor
       · intro h;cases h
       · intro h;injection h with h;exact absurd h.symm e
     · have h2:(arcs ++[b])[p]?=none:=List.getElem?_eq_none (by rw [List.length_append,List.length_singleton];omega)
       have h3:arcs[p]?=none:=List.getElem?_eq_none (by omega);rw [h2,h3]
theorem Qpv.of {N:Qaj}{l:List Int}{c:Nat}{x:Qal}{arcs:List Nat}{f:Nat→Option Nat} {Ls:List (List Stp)} (h:Qif N l c arcs f) (hl:Ls.length=arcs.length) (hs:∀ (p a:Nat) (t:List Stp),arcs[p]?=some a→Ls[p]?=some t→StO N x arcs a (fun _=>True) t) :
 Qpv N l c x arcs (fun p=>Ls.getD p []):=by
 have key:∀ p a,arcs[p]?=some a→StO N x arcs a (fun _=>True) (Ls.getD p []):=fun p a ha=>by
  have hp:=(Zs ha).1;exact hs p a _ ha (Qbd [] (by omega))
 exact ⟨h.at_,fun p a ha s hs=>(key p a ha).snd s hs,fun p a b k ha ht hk=>(key p a ha).outC b k trivial ht hk,fun p a b ha ht hm hw=>(key p a ha).toC b trivial ht hm hw⟩
theorem Qpv.fld {N:Qaj}(hok:Qas N){l:List Int}{c:Nat}{x:Qal}{arcs:List Nat} {Ls:List (List Stp)} (h:Qpv N l c x arcs (fun p=>Ls.getD p [])):Qol (fun p=>Ls.getD p []) arcs.length x.2.length 4294967296:=by
 have key:∀ p,p<arcs.length→∀ s∈Ls.getD p [],(s.2.1<0→s.1<arcs.length)∧s.2.1<x.2.length∧0≤s.2.2∧s.2.2≤4294967296:=fun p hp s hs=>by
  obtain ⟨b,h1,h2⟩:=h.snd p _ (Zg hp) s hs;have hb:=(Qin hok _ b).resolve_left h1
  rcases h2 with ⟨k,h3,h4,h5⟩|⟨h3,h4,h5,h6,h7⟩
  · have hk:=(Zs h3).1
    exact ⟨fun e=>by omega,by omega,by omega,by omega⟩
  · obtain ⟨xa,y,_,hy,_⟩:=Qcg h1
    rw [(Qcp hy).2.2] at h4 h7;have hw:=(Qhy (hok.arcs y (Zm hy)).w).resolve_left h4;exact ⟨fun _=>(Zs h6).1,by omega,by omega,by omega⟩
 exact ⟨fun p hp s hs=>(key p hp s hs).1,fun p hp s hs=>(key p hp s hs).2.1,fun p hp s hs=>(key p hp s hs).2.2⟩
def Quq (N:Qaj)(lb:List Int)(a m:Nat)(v:Int):Prop:=∃ y z,N.ar[a]?=some y∧N.ar[m]?=some z∧Qaf lb y.1≠Qaf lb y.2.1∧Qaf lb z.1=Qaf lb y.2.1∧Qaf lb z.2.1≠Qaf lb y.2.1∧Qhk N (Qdz lb (Qaf lb y.2.1)) a m v
structure Qqr (N:Qaj) (l lb:List Int) (c:Nat) (x:Qal) (pl:List Nat) (L:Nat→List Stp):Prop where
 at_:∀ a∈pl,Qeb N l lb c a
 all:∀ a,Qeb N l lb c a→∃ p:Nat,pl[p]?=some a
 nd:pl.Nodup
 snd:∀ (p a:Nat),pl[p]?=some a→∀ s∈L p,∃ m v,Quq N lb a m v∧v≠1152921504606846976∧((∃ k:Nat,x.2[k]?=some (m:Int)∧s.2.1=(k:Int)∧s.2.2=v)∨((m:Int) ∉ x.2∧wV N m≠1152921504606846976∧s.2.1<0∧pl[s.1]?=some m∧s.2.2=v+wV N m))
 outC:∀ (p a m:Nat) (v:Int) (k:Nat),pl[p]?=some a→Quq N lb a m v→v≠1152921504606846976→x.2[k]?=some (m:Int)→∃ s∈L p,s.2.1=(k:Int)∧s.2.2=v
 toC:∀ (p a m:Nat) (v:Int),pl[p]?=some a→Quq N lb a m v→v≠1152921504606846976→(m:Int) ∉ x.2→wV N m≠1152921504606846976→∃ s∈L p,s.2.1<0∧pl[s.1]?=some m∧s.2.2=v+wV N m
section
variable {N:Qaj} {l lb:List Int} {c:Nat} {x:Qal} {pl:List Nat} {L:Nat→List Stp}
theorem Qqr.fwd (h:Qqr N l lb c x pl L){i s:Nat} (hi:pl[i]?=some s) {p:Nat} {d:Int} (hr:Rch (StF L) i p d) :
 ∃ a,pl[p]?=some a∧Rch (fun a m d=>StC N lb x a m d∧Qeb N l lb c a∧Qeb N l lb c m) s a d:=by
 induction hr with
 | start=>exact ⟨s,hi,.start⟩
 | @step p q d e _ h2 ih =>
  obtain ⟨a,ha,hr⟩:=ih;obtain ⟨t,ht,h3,rfl,rfl⟩:=h2;obtain ⟨m,v,⟨y,z,hy,hz,k1,k2,k3,k4⟩,h5,h6⟩:=h.snd p a ha t ht
  rcases h6 with ⟨k,_,h6,_⟩|⟨h6,h7,_,h8,h9⟩
  · omega
  · rw [(Qcp hz).2.2] at h7 h9
    exact ⟨m,h8,hr.step ⟨⟨v,⟨y,z,hy,hz,k1,k2,k3,h7,h9,k4⟩,h5,h6⟩,h.at_ a (Zm ha),h.at_ m (Zm h8)⟩⟩
theorem Qqr.bwd (h:Qqr N l lb c x pl L){i s:Nat} (hi:pl[i]?=some s) {a:Nat} {d:Int} (hr:Rch (fun a m d=>StC N lb x a m d∧Qeb N l lb c a∧Qeb N l lb c m) s a d) :
 ∃ p:Nat,pl[p]?=some a∧Rch (StF L) i p d:=by
 induction hr with
 | start=>exact ⟨i,hi,.start⟩
 | @step a m d e _ h2 ih =>
  obtain ⟨p,ha,hr⟩:=ih;obtain ⟨⟨v,⟨y,z,hy,hz,k1,k2,k3,k4,rfl,k5⟩,h5,h6⟩,_,_⟩:=h2;have hw:=(Qcp hz).2.2;obtain ⟨t,ht,h10,h11,h12⟩:=h.toC p a m v ha ⟨y,z,hy,hz,k1,k2,k3,k5⟩ h5 h6 (by rw [hw];exact k4);exact ⟨t.1,h11,hr.step ⟨t,ht,h10,rfl,by rw [h12,hw]⟩⟩
theorem rchK_end {N:Qaj}{l lb:List Int}{c a b:Nat}{d:Int}(hb:Qeb N l lb c b) (hr:Rch (StK N l lb c) a b d):a=b∧d=0:=by
 cases hr with
 | start=>exact ⟨rfl,rfl⟩
 | step _ h2 =>
  obtain ⟨y,hy,h3,_⟩:=hb;obtain ⟨t1,t2,_⟩:=Qcp hy;have:=h2.2;rw [t1,t2] at this;exact absurd this h3
theorem Qqr.entry (h:Qqr N l lb c x pl L)(hok:Qas N)(hl:l.length=N.vs.length)(hb:lb.length=N.vs.length)(hn:Qdj lb l) (hx:(gateRow N.ar l)[c]?=some x)
 (hE:∀ a m y z,Qeb N l lb c a→N.ar[a]?=some y→N.ar[m]?=some z→Qaf lb z.1=Qaf lb y.2.1→Qaf lb z.2.1≠Qaf lb y.2.1→∃ v,Qhk N (Qdz lb (Qaf lb y.2.1)) a m v)
 {i s k t:Nat} (hi:pl[i]?=some s) (hk:x.2[k]?=some (t:Int)) {v:Int} (hv:Lst (Qtl (StF L) (OuF L) i k) v):Qhk N (Qdz l c) s t v:=by
 have hs:=h.at_ s (Zm hi)
 have hinj:∀ (b k':Nat),x.2[k']?=some (b:Int)→k'=k→b=t:=fun b k' h1 e=>by
  subst e;rw [hk] at h1;have:=Option.some.inj h1;omega
 have hN:=nested hok hl hb hn hx hE (Zm hk)
 have h1:Lst (Qtl (fun a m d=>StC N lb x a m d∧Qeb N l lb c a∧Qeb N l lb c m) (fun a t' d=>OuC N lb x a t' d∧Qeb N l lb c a∧t'=t) s t) v:=by
  refine hv.conv (fun d hd=>?_) (fun d hd=>?_)
  · obtain ⟨p,d1,d2,h1,⟨u,hu,h2,h3⟩,rfl⟩:=hd
    obtain ⟨a,ha,hr⟩:=h.fwd hi h1;obtain ⟨m,v,⟨y,z,hy,hz,k1,k2,k3,k4⟩,h5,h6⟩:=h.snd p a ha u hu
    rcases h6 with ⟨k',h6,h7,h8⟩|⟨_,_,h6,_⟩
    · have hb:=hinj m k' h6 (by omega)
      subst hb;refine ⟨_,⟨a,d1,v,hr,⟨⟨⟨y,z,hy,hz,k1,k2,k3,k4⟩,h5,Zm hk⟩,h.at_ a (Zm ha),rfl⟩,rfl⟩,by omega⟩
    · omega
  · obtain ⟨a,d1,d2,h1,⟨⟨⟨y,z,hy,hz,k1,k2,k3,k4⟩,h5,h6⟩,_,_⟩,rfl⟩:=hd
    obtain ⟨p,ha,hr⟩:=h.bwd hi h1;obtain ⟨u,hu,h7,h8⟩:=h.outC p a t d2 k ha ⟨y,z,hy,hz,k1,k2,k3,k4⟩ h5 hk;exact ⟨_,⟨p,d1,_,hr,⟨u,hu,h7,rfl⟩,rfl⟩,by omega⟩
 have h2:=hN.same (fun p q d _=>Classical.em _) hs h1;refine h2.conv (fun d hd=>?_) (fun d hd=>?_)
 · obtain ⟨p,d1,d2,g1,g2,rfl⟩:=hd
   exact ⟨_,⟨p,d1,d2,g1,g2.1,rfl⟩,Int.le_refl _⟩
 · obtain ⟨p,d1,d2,g1,g2,rfl⟩:=hd
   exact ⟨_,⟨p,d1,d2,g1,⟨g2,rfl⟩,rfl⟩,Int.le_refl _⟩
theorem Qqr.bound (h:Qqr N l lb c x pl L)(hok:Qas N)(hl:l.length=N.vs.length)(hb:lb.length=N.vs.length)(hn:Qdj lb l) (hx:(gateRow N.ar l)[c]?=some x)
 (hE:∀ a m y z,Qeb N l lb c a→N.ar[a]?=some y→N.ar[m]?=some z→Qaf lb z.1=Qaf lb y.2.1→Qaf lb z.2.1≠Qaf lb y.2.1→∃ v,Qhk N (Qdz lb (Qaf lb y.2.1)) a m v) (t:Nat) (ht:(t:Int)∈x.2)
 {i s:Nat} (hi:pl[i]?=some s) (p:Nat) (d:Int) (hr:Rch (StF L) i p d):∃ e,Rch (StF L) i p e∧e≤MB:=by
 have hN:=nested hok hl hb hn hx hE ht;obtain ⟨a,ha,h1⟩:=h.fwd hi hr;obtain ⟨e,h2,h3⟩:=Qjw hok a d (hN.up h1);obtain ⟨a',c1,c2,_,g1,g2,g3⟩:=hN.down (fun p q d _=>Classical.em _) (h.at_ s (Zm hi)) h2;obtain ⟨rfl,rfl⟩:=rchK_end (h.at_ a (Zm ha)) g2;obtain ⟨q,hq,h4⟩:=h.bwd hi g1;have:q=p:=(List.getElem?_inj (Zs hq).1 h.nd).1 (hq.trans ha.symm);subst this;exact ⟨c1,h4,by omega⟩
theorem Qqr.fld (h:Qqr N l lb c x pl L)(hok:Qas N):Qol L pl.length x.2.length 70377334112256:=by
 have key:∀ p,p<pl.length→∀ s∈L p,(s.2.1<0→s.1<pl.length)∧s.2.1<x.2.length∧0≤s.2.2∧s.2.2≤70377334112256:=fun p hp s hs=>by
  obtain ⟨m,v,⟨y,z,hy,hz,k1,k2,k3,k4⟩,h5,h6⟩:=h.snd p _ (Zg hp) s hs;have hv:=(k4.bd hok).resolve_left h5
  rcases h6 with ⟨k,h3,h4,h5⟩|⟨h3,h4,h5,h6,h7⟩
  · have hk:=(Zs h3).1
    exact ⟨fun e=>by omega,by omega,by omega,by omega⟩
  · rw [(Qcp hz).2.2] at h4 h7
    have hw:=(Qhy (hok.arcs z (Zm hz)).w).resolve_left h4;exact ⟨fun _=>(Zs h6).1,by omega,by omega,by omega⟩
 exact ⟨fun p hp s hs=>(key p hp s hs).1,fun p hp s hs=>(key p hp s hs).2.1,fun p hp s hs=>(key p hp s hs).2.2⟩
end
end Go.Proofs.YthoagdpakddbdaaGreatDoor
