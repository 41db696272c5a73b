/- Parts of the proof: ChP, MdP, MdQ, MdR, MdL. -/
import Derived.Test.YthoagdpakddbdaaGreatDoorK1
import Derived.Test.YthoagdpakddbdaaGreatDoorK2
import Derived.Test.YthoagdpakddbdaaGreatDoorK4
import Derived.Test.YthoagdpakddbdaaGreatDoorK5
import Derived.Test.YthoagdpakddbdaaGreatDoorK16
import Derived.Test.YthoagdpakddbdaaGreatDoorK19
namespace Go.Proofs.YthoagdpakddbdaaGreatDoor
open Go.RowKit Go.Proofs.Tryz
theorem Qkz (f:Tri→Int)(v:Int):∀ (l m:List Tri) (k:Nat),l.map f=m.map f→((l.zipIdx k).filter (fun p=>f p.1 == v)).map (fun p=>(p.2:Int))=((m.zipIdx k).filter (fun p=>f p.1 == v)).map (fun p=>(p.2:Int))
 | [],[],_,_=>rfl
 | [],_::_,_,h=>by simp at h
 | _::_,[],_,h=>by simp at h
 | a::l,b::m,k,h=>by
  simp only [List.map_cons,List.cons.injEq] at h;have ih:=Qkz f v l m (k+1) h.2;simp only [List.zipIdx_cons,List.filter_cons,h.1]
  split
  · simp only [List.map_cons,ih]
  · exact ih
theorem Qei {f:Tri→Int}{l m:List Tri}(h:l.map f=m.map f)(v:Int):idx f l v=idx f m v:=Qkz f v l m 0 h
theorem Qkn {f:Tri→Int}{l m:List Tri}(h:l.map f=m.map f)(n:Nat):Qjz f l n=Qjz f m n:=by
 unfold Qjz;simp only [Qei h]
def Qdu (l m:List Tri):Prop:=l.map (·.1)=m.map (·.1)∧l.map (·.2.1)=m.map (·.2.1)
theorem Qdu.len {l m:List Tri}(h:Qdu l m):l.length=m.length:=by
 have:=congrArg List.length h.1
 simpa using this
theorem Qdu.take {l m:List Tri}(h:Qdu l m)(k:Nat):Qdu (l.take k) (m.take k):=⟨by rw [List.map_take,List.map_take,h.1],by rw [List.map_take,List.map_take,h.2]⟩
theorem Qdu.get {l m:List Tri}(h:Qdu l m){i:Nat}{a:Tri} (ha:l[i]?=some a):∃ b,m[i]?=some b∧b.1=a.1∧b.2.1=a.2.1:=by
 have hi:=(Zs ha).1;have him:i<m.length:=by rw [←h.len];exact hi
 have hm:m[i]?=some m[i]:=Zg him;have e1:=congrArg (·[i]?) h.1;have e2:=congrArg (·[i]?) h.2;simp only [List.getElem?_map,ha,hm,Option.map_some,Option.some.injEq] at e1 e2;exact ⟨_,hm,e1.symm,e2.symm⟩
theorem Qdu.symm {l m:List Tri}(h:Qdu l m):Qdu m l:=⟨h.1.symm,h.2.symm⟩
theorem Qjj {l:List Tri}{a:Nat}{x y z:Int} (h:l[a]?=some (x,y,z)) (u:Int):Qdu (l.set a (x,y,u)) l:=by
 have hl:=(Zs h).1;refine ⟨?_,?_⟩ <;>
 · apply List.ext_getElem?
   intro i;simp only [List.getElem?_map]
   by_cases e:a=i
   · subst e
     rw [List.getElem?_set_self hl,h]
     rfl
   · rw [List.getElem?_set_ne e]
theorem Qrw {l m:List Tri}(h:Qdu l m):plcs l=plcs m:=by
 apply List.ext_getElem?
 intro i
 rcases Nat.lt_or_ge i l.length with hi|hi
 · have ha:l[i]?=some l[i]:=Zg hi
   obtain ⟨b,hb,e1,e2⟩:=h.get ha;rw [Qgp ha,Qgp hb];unfold Qew;rw [Qei (h.take i).2,Qei (h.take i).1,e1,e2]
 · rw [List.getElem?_eq_none (by rw [Qir];exact hi),List.getElem?_eq_none (by rw [Qir,←h.len];exact hi)]
theorem Qoe {f:Tri→Int}{l m:List Tri}(h:l.map f=m.map f)(v:Int):l.countP (fun a=>f a == v)=m.countP (fun a=>f a == v):=by
 rw [←Qln,←Qln,Qei h]
def Qaj.setW (N:Qaj)(a:Nat)(x y u:Int):Qaj:=⟨N.vs,N.ar.set a (x,y,u),N.ts⟩
def Qaj.bend (N:Qaj)(p:Nat)(t:Qbw):Qaj:=⟨N.vs,N.ar,N.ts.set p t⟩
def Qbw.turn (t:Qbw)(i:Nat)(c:Int):Qbw:=⟨t.ins,t.outs,t.costs.set i c⟩
theorem Qas.setW {N:Qaj}(h:Qas N){a:Nat}{x y z u:Int} (ha:N.ar[a]?=some (x,y,z)) (hu:wOk u=true):Qas (N.setW a x y u) where
 lv:=h.lv
 la:=by show (N.ar.set a (x,y,u)).length≤_;rw [List.length_set];exact h.la
 lt:=h.lt
 tabs:=h.tabs
 verts:=h.verts
 arcs:=fun t ht=>by
  rcases List.mem_or_eq_of_mem_set ht with ht|rfl
  · exact h.arcs t ht
  · have:=h.arcs _ (Zm ha)
    exact ⟨this.f0,this.f1,this.g0,this.g1,hu⟩
 meet:=fun i v t hv ht=>by
  have h1:=h.meet i v t hv ht;have hA:=Qjj ha u;unfold Qvu Qur at *
  show ((List.countP _ (N.ar.set a (x,y,u)):Nat):Int)=_∧((List.countP _ (N.ar.set a (x,y,u)):Nat):Int)=_
  rw [Qoe hA.2,Qoe hA.1];exact h1
theorem Qig.turn {t:Qbw}(h:Qig t){i:Nat}{c:Int}(hc:wOk c=true):Qig (t.turn i c) where
 i0:=h.i0
 i16:=h.i16
 o0:=h.o0
 o16:=h.o16
 len:=by show ((t.costs.set i c).length:Int)=_;rw [List.length_set];exact h.len
 ok:=fun d hd=>by
  rcases List.mem_or_eq_of_mem_set hd with hd|rfl
  · exact h.ok d hd
  · exact hc
theorem Qas.bend {N:Qaj}(h:Qas N){p:Nat}{t:Qbw} (ht:N.ts[p]?=some t) {i:Nat} {c:Int} (hc:wOk c=true):Qas (N.bend p (t.turn i c)) where
 lv:=h.lv
 la:=h.la
 lt:=by show (N.ts.set p _).length≤_;rw [List.length_set];exact h.lt
 tabs:=fun s hs=>by
  rcases List.mem_or_eq_of_mem_set hs with hs|rfl
  · exact h.tabs s hs
  · exact (h.tabs t (Zm ht)).turn hc
 verts:=fun v hv=>by
  have:=h.verts v hv;have hl:(N.ts.set p (t.turn i c)).length=N.ts.length:=List.length_set ..;exact ⟨this.x,this.y,this.t0,by show v.2.2<((N.ts.set p (t.turn i c)).length:Int);rw [hl];exact this.t1⟩
 arcs:=h.arcs
 meet:=fun j v s hv hs=>by
  have hs:(N.ts.set p (t.turn i c))[v.2.2.toNat]?=some s:=hs
  by_cases e:p=v.2.2.toNat
  · rw [e,List.getElem?_set_self (by rw [←e];exact (Zs ht).1)] at hs
    cases hs
    exact h.meet j v t hv (by rw [←e];exact ht)
  · rw [List.getElem?_set_ne e] at hs
    exact h.meet j v s hv hs
/-! the number of an entry, one by one -/
--BEGINPLAIN
structure Kin (N M:Qaj):Prop where
 vs:M.vs=N.vs
 al:Qdu M.ar N.ar
theorem Kin.refl (N:Qaj):Kin N N:=⟨rfl,rfl,rfl⟩
theorem Kin.trans {N M K:Qaj}(h:Kin N M)(g:Kin M K):Kin N K:=⟨g.vs.trans h.vs,⟨g.al.1.trans h.al.1,g.al.2.trans h.al.2⟩⟩
theorem Kin.symm {N M:Qaj}(h:Kin N M):Kin M N:=⟨h.vs.symm,h.al.symm⟩
structure Qdw (N M:Qaj) (mk:List Bool):Prop where
 kin:Kin N M
 w:∀ (b:Nat) (y z:Tri),N.ar[b]?=some y→M.ar[b]?=some z→mk.getD y.1.toNat false=true→mk.getD y.2.1.toNat false=true→z.2.2=y.2.2
 t:∀ (v:Nat) (x:Tri),N.vs[v]?=some x→mk.getD v false=true→M.ts[x.2.2.toNat]?=N.ts[x.2.2.toNat]?
theorem Qje {l m:List Tri}(h:Qdu l m)(k:Nat){x y:Tri}(h1:x.1=y.1)(h2:x.2.1=y.2.1):Qew l k x=Qew m k y:=by
 unfold Qew;rw [Qei (h.take k).2,Qei (h.take k).1,h1,h2]
theorem Qdw.turn {N M:Qaj}{mk:List Bool}(h:Qdw N M mk){a b:Nat} (ha:∀ y,N.ar[a]?=some y→mk.getD y.2.1.toNat false=true):Qaw M a b=Qaw N a b:=by
 unfold Qaw
 cases h1:N.ar[a]? with
 | none =>
  have e:M.ar[a]?=none:=List.getElem?_eq_none (by rw [h.kin.al.len];exact List.getElem?_eq_none_iff.1 h1);rw [e]
 | some x =>
  obtain ⟨x',e1,q1,q2⟩:=h.kin.al.symm.get h1;rw [e1]
  cases h2:N.ar[b]? with
  | none =>
   have e:M.ar[b]?=none:=List.getElem?_eq_none (by rw [h.kin.al.len];exact List.getElem?_eq_none_iff.1 h2);rw [e]
  | some y =>
   obtain ⟨y',e2,q3,q4⟩:=h.kin.al.symm.get h2;rw [e2];simp only;rw [q2,q3,h.kin.vs]
   split
   · cases h3:N.vs[x.2.1.toNat]? with
     | none=>rfl
     | some v =>
      have ht:=h.t _ v h3 (ha x h1);simp only;rw [ht,Qje h.kin.al a q1 q2,Qje h.kin.al b q3 q4]
   · rfl
theorem Qdw.symm {N M:Qaj}{mk:List Bool}(h:Qdw N M mk):Qdw M N mk :=
 ⟨h.kin.symm,fun b y z h1 h2 h3 h4=>by
  obtain ⟨y',e,q1,q2⟩:=h.kin.al.get h1;rw [h2] at e
  cases e
  exact (h.w b z y h2 h1 (by rw [q1];exact h3) (by rw [q2];exact h4)).symm,fun v x h1 h2=>(h.t v x (by rw [←h.kin.vs];exact h1) h2).symm⟩
theorem Qdw.rch {N M:Qaj}{mk:List Bool}(h:Qdw N M mk){s p:Nat}{c:Int} (hs:∀ y,N.ar[s]?=some y→mk.getD y.2.1.toNat false=true) (hr:Rch (StA N mk) s p c):Rch (StA M mk) s p c∧∀ y,N.ar[p]?=some y→mk.getD y.2.1.toNat false=true:=by
 induction hr with
 | start=>exact ⟨.start,hs⟩
 | step _ h2 ih =>
  obtain ⟨g1,g2⟩:=ih;obtain ⟨y,hy,k1,k2,k3,k4,rfl⟩:=h2;obtain ⟨z,hz,q1,q2⟩:=h.kin.al.symm.get hy;have hw:=h.w _ y z hy hz k3 k4;refine ⟨.step g1 ⟨z,hz,by rw [h.turn g2];exact k1,by rw [hw];exact k2,by rw [q1];exact k3,by rw [q2];exact k4,by rw [h.turn g2,hw]⟩,fun y' hy'=>?_⟩;rw [hy] at hy'
  cases hy'
  exact k4
theorem Qdw.out {N M:Qaj}{mk:List Bool}(h:Qdw N M mk){s t:Nat}{v:Int} (hs:∀ y,N.ar[s]?=some y→mk.getD y.2.1.toNat false=true) (ho:Qtl (StA N mk) (OuA N) s t v):Qtl (StA M mk) (OuA M) s t v:=by
 obtain ⟨p,c,d,h1,⟨h2,h3⟩,h4⟩:=ho;obtain ⟨g1,g2⟩:=h.rch hs h1;exact ⟨p,c,d,g1,⟨by rw [h.turn g2];exact h2,by rw [h.turn g2];exact h3⟩,h4⟩
theorem Qdw.ent {N M:Qaj}{mk:List Bool}(h:Qdw N M mk){s t:Nat}{v:Int} (hs:∀ y,N.ar[s]?=some y→mk.getD y.2.1.toNat false=true) (he:Qhk N mk s t v):Qhk M mk s t v:=by
 have hs':∀ y,M.ar[s]?=some y→mk.getD y.2.1.toNat false=true:=fun y hy=>by
  obtain ⟨y',e,_,q2⟩:=h.kin.al.get hy;rw [←q2];exact hs y' e
 rcases he with ⟨h1,h2⟩|⟨h1,h2⟩
 · exact .inl ⟨h.out hs h1,fun c hc=>h2 c (h.symm.out hs' hc)⟩
 · exact .inr ⟨h1,fun c hc=>h2 c (h.symm.out hs' hc)⟩
--ENDPLAIN
--BEGINPLAIN
abbrev Chn:=Int×Int×Int×Int×Int
def Chn.w (c:Chn):Int:=c.2.2.2.2
def Chn.key (c:Chn):Int×Int×Int×Int:=(c.1,c.2.1,c.2.2.1,c.2.2.2.1)
structure Qec (N:Qaj) (c:Chn) (a:Nat):Prop where
 k:c.1=1
 at_:c.2.1=(a:Int)
 i:c.2.2.1=0
 o:c.2.2.2.1=0
 lt:a<N.ar.length
 w:wOk c.w=true
structure Qbc (N:Qaj) (c:Chn) (p i:Nat) (t:Qbw):Prop where
 k:c.1=2
 at_:c.2.1=(p:Int)
 tt:N.ts[p]?=some t
 in0:0≤c.2.2.1
 in1:c.2.2.1<t.ins
 out0:0≤c.2.2.2.1
 out1:c.2.2.2.1<t.outs
 i:i=c.2.2.1.toNat*t.outs.toNat+c.2.2.2.1.toNat
 w:wOk c.w=true
def ChOk (N:Qaj)(c:Chn):Prop:=(∃ a,Qec N c a)∨∃ p i t,Qbc N c p i t
structure Qbj (N:Qaj) (l:List Chn):Prop where
 all:∀ c∈l,ChOk N c
 keys:(l.map Chn.key).Nodup
def Qoy (N:Qaj)(c:Chn):Qaj :=
 if c.1=1 then (match N.ar[c.2.1.toNat]? with|some (x,y,_)=>N.setW c.2.1.toNat x y c.w|none=>N)
 else (match N.ts[c.2.1.toNat]? with|some t=>N.bend c.2.1.toNat (t.turn (c.2.2.1.toNat*t.outs.toNat+c.2.2.2.1.toNat) c.w)|none=>N)
def Qef (N:Qaj)(l:List Chn):Qaj:=l.foldl Qoy N
theorem Qgr (N:Qaj)(c:Chn)(l:List Chn):Qef N (c::l)=Qef (Qoy N c) l:=rfl
theorem appN_app (N:Qaj)(l m:List Chn):Qef N (l ++m)=Qef (Qef N l) m:=by simp [Qef]
theorem Qec.eq {N:Qaj}{c:Chn}{a:Nat}(h:Qec N c a){x y z:Int} (ha:N.ar[a]?=some (x,y,z)):Qoy N c=N.setW a x y c.w:=by
 unfold Qoy;have e:c.2.1.toNat=a:=by rw [h.at_,Int.toNat_natCast]
 rw [if_pos h.k,e,ha]
theorem Qbc.eq {N:Qaj}{c:Chn}{p i:Nat}{t:Qbw}(h:Qbc N c p i t):Qoy N c=N.bend p (t.turn i c.w):=by
 unfold Qoy;have e:c.2.1.toNat=p:=by rw [h.at_,Int.toNat_natCast]
 rw [if_neg (by rw [h.k];decide),e,h.tt];simp only;rw [←h.i]
theorem Qbc.lt {N:Qaj}(hN:Qas N){c:Chn}{p i:Nat}{t:Qbw}(h:Qbc N c p i t):i<t.costs.length:=by
 have ht:=hN.tabs t (Zm h.tt);have hl:=ht.len;obtain ⟨a,ha⟩:∃ a:Nat,c.2.2.1=a:=⟨c.2.2.1.toNat,by have:=h.in0;omega⟩;obtain ⟨b,hb⟩:∃ b:Nat,c.2.2.2.1=b:=⟨c.2.2.2.1.toNat,by have:=h.out0;omega⟩;obtain ⟨m,hm⟩:∃ m:Nat,t.ins=m:=⟨t.ins.toNat,by have:=ht.i0;omega⟩;obtain ⟨n,hn⟩:∃ n:Nat,t.outs=n:=⟨t.outs.toNat,by have:=ht.o0;omega⟩;have h1:=h.in1;have h2:=h.out1;have hi:=h.i;rw [ha,hm] at h1;rw [hb,hn] at h2;rw [ha,hb,hn,Int.toNat_natCast,Int.toNat_natCast,Int.toNat_natCast] at hi;rw [hm,hn] at hl;have hl:t.costs.length=m*n:=by exact_mod_cast hl
 rw [hi,hl];have h3:(a+1)*n≤m*n:=Nat.mul_le_mul_right n (by omega);rw [Nat.add_mul,Nat.one_mul] at h3;omega
structure Qfx (N M:Qaj):Prop where
 kin:Kin N M
 tl:M.ts.length=N.ts.length
 tab:∀ (p:Nat) (t:Qbw),N.ts[p]?=some t→∃ t',M.ts[p]?=some t'∧t'.ins=t.ins∧t'.outs=t.outs∧t'.costs.length=t.costs.length
theorem Qfx.refl (N:Qaj):Qfx N N:=⟨Kin.refl N,rfl,fun _ t h=>⟨t,h,rfl,rfl,rfl⟩⟩
theorem Qfx.trans {N M K:Qaj}(h:Qfx N M)(g:Qfx M K):Qfx N K:=⟨h.kin.trans g.kin,g.tl.trans h.tl,fun p t ht=>by
 obtain ⟨t1,a1,a2,a3,a4⟩:=h.tab p t ht;obtain ⟨t2,b1,b2,b3,b4⟩:=g.tab p t1 a1;exact ⟨t2,b1,b2.trans a2,b3.trans a3,b4.trans a4⟩⟩
theorem Qfx.symm {N M:Qaj}(h:Qfx N M):Qfx M N:=⟨h.kin.symm,h.tl.symm,fun p t ht=>by
 have hp:p<N.ts.length:=by rw [←h.tl];exact (Zs ht).1
 obtain ⟨t',h1,h2,h3,h4⟩:=h.tab p _ (Zg hp);rw [ht] at h1
 cases h1
 exact ⟨_,Zg hp,h2.symm,h3.symm,h4.symm⟩⟩
theorem Qfr {N:Qaj}{c:Chn}(h:ChOk N c):Qfx N (Qoy N c):=by
 rcases h with ⟨a,h⟩|⟨p,i,t,h⟩
 · obtain ⟨⟨x,y,z⟩,ha⟩:∃ e,N.ar[a]?=some e:=⟨_,Zg h.lt⟩
   rw [h.eq ha];exact ⟨⟨rfl,Qjj ha _⟩,rfl,fun p t ht=>⟨t,ht,rfl,rfl,rfl⟩⟩
 · rw [h.eq]
   refine ⟨⟨rfl,rfl,rfl⟩,List.length_set ..,fun q s hs=>?_⟩
   by_cases e:p=q
   · subst e
     rw [h.tt] at hs
     cases hs
     exact ⟨_,List.getElem?_set_self (Zs h.tt).1,rfl,rfl,List.length_set ..⟩
   · exact ⟨s,by show (N.ts.set p _)[q]?=_;rw [List.getElem?_set_ne e];exact hs,rfl,rfl,rfl⟩
theorem Qvn {N:Qaj}(hN:Qas N){c:Chn}(h:ChOk N c):Qas (Qoy N c):=by
 rcases h with ⟨a,h⟩|⟨p,i,t,h⟩
 · obtain ⟨⟨x,y,z⟩,ha⟩:∃ e,N.ar[a]?=some e:=⟨_,Zg h.lt⟩
   rw [h.eq ha];exact hN.setW ha h.w
 · rw [h.eq]
   exact hN.bend h.tt h.w
theorem Qec.shape {N M:Qaj}(hs:Qfx N M){c:Chn}{a:Nat}(h:Qec N c a):Qec M c a:=⟨h.k,h.at_,h.i,h.o,by rw [hs.kin.al.len];exact h.lt,h.w⟩
theorem Qbc.shape {N M:Qaj}(hs:Qfx N M){c:Chn}{p i:Nat}{t:Qbw}(h:Qbc N c p i t):∃ t',Qbc M c p i t'∧t'.ins=t.ins∧t'.outs=t.outs∧t'.costs.length=t.costs.length:=by
 obtain ⟨t',h1,h2,h3,h4⟩:=hs.tab p t h.tt;exact ⟨t',⟨h.k,h.at_,h1,h.in0,by rw [h2];exact h.in1,h.out0,by rw [h3];exact h.out1,by rw [h3];exact h.i,h.w⟩,h2,h3,h4⟩
theorem ChOk.shape {N M:Qaj}(hs:Qfx N M){c:Chn}(h:ChOk N c):ChOk M c:=by
 rcases h with ⟨a,h⟩|⟨p,i,t,h⟩
 · exact .inl ⟨a,h.shape hs⟩
 · obtain ⟨t',h',_⟩:=h.shape hs
   exact .inr ⟨p,i,t',h'⟩
theorem Qbj.shape {N M:Qaj}(hs:Qfx N M){l:List Chn}(h:Qbj N l):Qbj M l:=⟨fun c hc=>(h.all c hc).shape hs,h.keys⟩
theorem Qbj.tail {N:Qaj}{c:Chn}{l:List Chn} (h:Qbj N (c::l)):Qbj (Qoy N c) l :=
 ⟨fun d hd=>(h.all d (List.mem_cons_of_mem _ hd)).shape (Qfr (h.all c (List.mem_cons_self ..))),(List.nodup_cons.1 (by simpa using h.keys)).2⟩
theorem Qbj.other {N:Qaj}{c:Chn}{l:List Chn} (h:Qbj N (c::l)) {d:Chn} (hd:d∈l):d.key≠c.key:=fun e=>by
 have:=(List.nodup_cons.1 (show (c.key::l.map Chn.key).Nodup by simpa using h.keys)).1
 exact this (List.mem_map.2 ⟨d,hd,e⟩)
theorem Qcb:∀ {l:List Chn}{N:Qaj},Qbj N l→Qfx N (Qef N l)
 | [],N,_=>Qfx.refl N
 | c::l,N,h=>by
  rw [Qgr];exact (Qfr (h.all c (List.mem_cons_self ..))).trans (Qcb h.tail)
theorem Qog:∀ {l:List Chn}{N:Qaj},Qas N→Qbj N l→Qas (Qef N l)
 | [],_,hN,_=>hN
 | c::l,_,hN,h=>by
  rw [Qgr];exact Qog (Qvn hN (h.all c (List.mem_cons_self ..))) h.tail
theorem Qec.key {N M:Qaj}{c d:Chn}{a:Nat}(h:Qec N c a)(g:Qec M d a):d.key=c.key:=by
 unfold Chn.key;rw [h.k,h.at_,h.i,h.o,g.k,g.at_,g.i,g.o]
theorem div_pair {a b a' b' n:Nat}(h:b<n)(h':b'<n)(e:a*n+b=a'*n+b'):a=a'∧b=b':=by
 have h1:(a*n+b) / n=a:=by rw [Nat.mul_comm,Nat.mul_add_div (by omega),Nat.div_eq_of_lt h,Nat.add_zero]
 have h2:(a'*n+b') / n=a':=by rw [Nat.mul_comm,Nat.mul_add_div (by omega),Nat.div_eq_of_lt h',Nat.add_zero]
 rw [e] at h1;have:a=a':=by omega
 subst this;exact ⟨rfl,by omega⟩
theorem Qbc.key {N M:Qaj}{c d:Chn}{p i:Nat}{t s:Qbw}(h:Qbc N c p i t)(g:Qbc M d p i s)(ho:s.outs=t.outs):d.key=c.key:=by
 have h1:=h.i;have g1:=g.i;rw [ho] at g1;have a1:=h.in0;have a2:=h.out0;have a3:=h.out1;have b1:=g.in0;have b2:=g.out0;have b3:=g.out1;rw [ho] at b3;obtain ⟨e1,e2⟩:=div_pair (a:=c.2.2.1.toNat) (b:=c.2.2.2.1.toNat) (a':=d.2.2.1.toNat) (b':=d.2.2.2.1.toNat) (n:=t.outs.toNat) (by omega) (by omega) (by rw [←h1,←g1]);unfold Chn.key;rw [h.k,h.at_,g.k,g.at_,show d.2.2.1=c.2.2.1 by omega,show d.2.2.2.1=c.2.2.2.1 by omega]
theorem Qhx:∀ {l:List Chn}{N:Qaj},Qbj N l→∀ {a:Nat} {x y z:Int},N.ar[a]?=some (x,y,z) →
 ∃ u,(Qef N l).ar[a]?=some (x,y,u)∧(∀ c∈l,Qec N c a→u=c.w)∧((∀ c∈l,¬Qec N c a)→u=z)
 | [],N,_,a,x,y,z,ha=>⟨z,ha,fun c hc=>by simp at hc,fun _=>rfl⟩
 | c::l,N,h,a,x,y,z,ha=>by
  rw [Qgr];have hs:=Qfr (h.all c (List.mem_cons_self ..))
  by_cases hc:Qec N c a
  · have h1:(Qoy N c).ar[a]?=some (x,y,c.w):=by
     rw [hc.eq ha];exact List.getElem?_set_self hc.lt
    obtain ⟨u,e1,e2,e3⟩:=Qhx h.tail h1;have hu:u=c.w:=e3 (fun d hd hds=>h.other hd (hc.key hds));refine ⟨u,e1,fun d hd hds=>?_,fun hn=>absurd hc (hn c (List.mem_cons_self ..))⟩
    rcases List.mem_cons.1 hd with rfl|hd
    · exact hu
    · exact e2 d hd (hds.shape hs)
  · have h1:(Qoy N c).ar[a]?=some (x,y,z):=by
     rcases h.all c (List.mem_cons_self ..) with ⟨b,hb⟩|⟨p,i,t,hb⟩
     · obtain ⟨⟨x',y',z'⟩,hb'⟩:∃ e,N.ar[b]?=some e:=⟨_,Zg hb.lt⟩
       rw [hb.eq hb']
       show (N.ar.set b _)[a]?=_
       rw [List.getElem?_set_ne (fun e=>hc (by rw [←e];exact hb))];exact ha
     · rw [hb.eq]
       exact ha
    obtain ⟨u,e1,e2,e3⟩:=Qhx h.tail h1;refine ⟨u,e1,fun d hd hds=>?_,fun hn=>e3 (fun d hd hds=>hn d (List.mem_cons_of_mem _ hd) (hds.shape hs.symm))⟩
    rcases List.mem_cons.1 hd with rfl|hd
    · exact absurd hds hc
    · exact e2 d hd (hds.shape hs)
theorem Qgv:∀ {l:List Chn}{N:Qaj},Qas N→Qbj N l→∀ {p:Nat} {t:Qbw},N.ts[p]?=some t →
 ∃ t',(Qef N l).ts[p]?=some t'∧t'.ins=t.ins∧t'.outs=t.outs∧t'.costs.length=t.costs.length ∧
  ∀ i,(∀ c∈l,Qbc N c p i t→t'.costs[i]?=some c.w)∧((∀ c∈l,¬Qbc N c p i t)→t'.costs[i]?=t.costs[i]?)
 | [],N,_,_,p,t,ht=>⟨t,ht,rfl,rfl,rfl,fun i=>⟨fun c hc=>by simp at hc,fun _=>rfl⟩⟩
 | c::l,N,hN,h,p,t,ht=>by
  rw [Qgr];have hcc:=h.all c (List.mem_cons_self ..);have hs:=Qfr hcc;have hN1:=Qvn hN hcc
  have key:∃ t1,(Qoy N c).ts[p]?=some t1∧t1.ins=t.ins∧t1.outs=t.outs∧t1.costs.length=t.costs.length ∧
   ∀ i,(Qbc N c p i t→t1.costs[i]?=some c.w)∧(¬Qbc N c p i t→t1.costs[i]?=t.costs[i]?):=by
   rcases hcc with ⟨b,hb⟩|⟨q,j,s,hb⟩
   · obtain ⟨⟨x',y',z'⟩,hb'⟩:∃ e,N.ar[b]?=some e:=⟨_,Zg hb.lt⟩
     rw [hb.eq hb'];exact ⟨t,ht,rfl,rfl,rfl,fun i=>⟨fun hbd=>by have:=hb.k;rw [hbd.k] at this;omega,fun _=>rfl⟩⟩
   · have hjl:=hb.lt hN
     rw [hb.eq]
     by_cases e:q=p
     · subst e
       have e2:s=t:=by have:=hb.tt;rw [ht] at this;exact (Option.some.inj this).symm
       subst e2;refine ⟨s.turn j c.w,List.getElem?_set_self (Zs ht).1,rfl,rfl,List.length_set ..,fun i=>⟨fun hbd=>?_,fun hnb=>?_⟩⟩
       · have:i=j:=by rw [hbd.i,hb.i]
         subst this;exact List.getElem?_set_self hjl
       · exact List.getElem?_set_ne (fun e=>hnb (by rw [←e];exact hb))
     · refine ⟨t,by show (N.ts.set q _)[p]?=_;rw [List.getElem?_set_ne e];exact ht,rfl,rfl,rfl,fun i=>⟨fun hbd=>?_,fun _=>rfl⟩⟩
       have h1:=hb.at_;have h2:=hbd.at_;omega
  obtain ⟨t1,k1,k2,k3,k4,k5⟩:=key;obtain ⟨t',e1,e2,e3,e4,e5⟩:=Qgv hN1 h.tail k1
  have hmove:∀ {d:Chn} {i:Nat},Qbc N d p i t→Qbc (Qoy N c) d p i t1:=fun hd =>
   ⟨hd.k,hd.at_,k1,hd.in0,by rw [k2];exact hd.in1,hd.out0,by rw [k3];exact hd.out1,by rw [k3];exact hd.i,hd.w⟩
  have hback:∀ {d:Chn} {i:Nat},Qbc (Qoy N c) d p i t1→Qbc N d p i t:=fun hd =>
   ⟨hd.k,hd.at_,ht,hd.in0,by rw [←k2];exact hd.in1,hd.out0,by rw [←k3];exact hd.out1,by rw [←k3];exact hd.i,hd.w⟩
  refine ⟨t',e1,e2.trans k2,e3.trans k3,e4.trans k4,fun i=>⟨fun d hd hdb=>?_,fun hn=>?_⟩⟩
  · rcases List.mem_cons.1 hd with rfl|hd
    · rw [(e5 i).2 (fun d2 hd2 hb2=>h.other hd2 (hdb.key (hback hb2) rfl)),(k5 i).1 hdb]
    · exact (e5 i).1 d hd (hmove hdb)
  · rw [(e5 i).2 (fun d hd hdb=>hn d (List.mem_cons_of_mem _ hd) (hback hdb)),(k5 i).2 (hn c (List.mem_cons_self ..))]
--ENDPLAIN
end Go.Proofs.YthoagdpakddbdaaGreatDoor
namespace Go.Proofs.YthoagdpakddbdaaGreatDoor
open Go.RowKit Go.Proofs.Tryz
--BEGINPLAIN
def Qml (N:Qaj)(c:Chn):Prop:=0≤c.2.1∧∃ t,N.ts[c.2.1.toNat]?=some t∧0≤c.2.2.1∧c.2.2.1<t.ins∧0≤c.2.2.2.1∧c.2.2.2.1<t.outs
open Classical in
noncomputable def Qpj (N:Qaj) (c:Chn):Int :=
 if c.1=1 then (if c.2.2.1≠0∨c.2.2.2.1≠0 then 1 else if ¬(0≤c.2.1∧c.2.1<(N.ar.length:Int)) then 5 else if wOk c.w=true then 0 else 8)
 else if c.1=2 then (if ¬Qml N c then 5 else if wOk c.w=true then 0 else 8) else 1
theorem Qja {N:Qaj}{c:Chn}:Qpj N c=0↔ChOk N c:=by
 unfold Qpj
 constructor
 · intro h
   split at h
   · rename_i h1
     split at h
     · cases h
     · rename_i h2
       split at h
       · cases h
       · rename_i h3
         split at h
         · rename_i h4
           have h2':=not_or.1 h2;have h3':=Classical.not_not.1 h3;exact .inl ⟨c.2.1.toNat,h1,by omega,Classical.not_not.1 h2'.1,Classical.not_not.1 h2'.2,by omega,h4⟩
         · cases h
   · split at h
     · rename_i h1
       split at h
       · cases h
       · rename_i h2
         split at h
         · rename_i h4
           obtain ⟨k0,t,k1,k2,k3,k4,k5⟩:=Classical.not_not.1 h2;exact .inr ⟨c.2.1.toNat,_,t,h1,by omega,k1,k2,k3,k4,k5,rfl,h4⟩
         · cases h
     · cases h
 · rintro (⟨a,h⟩|⟨p,i,t,h⟩)
   · have h1:=h.at_
     have h2:=h.lt;rw [if_pos h.k,if_neg (by rw [h.i,h.o];simp),if_neg (by rw [h1];simp;omega),if_pos h.w]
   · have h1:=h.at_
     have e:c.2.1.toNat=p:=by rw [h1,Int.toNat_natCast]
     rw [if_neg (by rw [h.k];decide),if_pos h.k,if_neg (not_not_intro ⟨by omega,t,by rw [e];exact h.tt,h.in0,h.in1,h.out0,h.out1⟩),if_pos h.w]
open Classical in
noncomputable def Qdp (N:Qaj) (pre:List Chn) (c:Chn):Int:=if Qpj N c≠0 then Qpj N c else if c.key∈pre.map Chn.key then 6 else 0
structure Vd (N:Qaj) (l:List Chn) (i:Nat) (e:Int):Prop where
 pre:∀ (j:Nat) (c:Chn),j<i→l[j]?=some c→Qdp N (l.take j) c=0
 at_:i=l.length∧e=0∨∃ c,l[i]?=some c∧Qdp N (l.take i) c=e∧e≠0
theorem Vd.le {N:Qaj}{l:List Chn}{i:Nat}{e:Int}(h:Vd N l i e):i≤l.length:=by
 rcases h.at_ with ⟨h,_⟩|⟨c,h,_⟩
 · omega
 · exact Nat.le_of_lt (Zs h).1
theorem vd_ex (N:Qaj)(l:List Chn):∃ i e,Vd N l i e:=by
 have key:∀ k,k≤l.length→(∀ (j:Nat) (c:Chn),j<k→l[j]?=some c→Qdp N (l.take j) c=0)∨∃ i e,Vd N l i e:=by
  intro k
  induction k with
  | zero=>exact fun _=>.inl (fun j c hj=>by omega)
  | succ k ih =>
   intro hk
   rcases ih (by omega) with h|h
   · obtain ⟨c,hc⟩:∃ c,l[k]?=some c:=⟨_,Zg (by omega)⟩
     by_cases h0:Qdp N (l.take k) c=0
     · refine .inl (fun j d hj hd=>?_)
       by_cases e:j=k
       · subst e
         rw [hc] at hd
         cases hd
         exact h0
       · exact h j d (by omega) hd
     · exact .inr ⟨k,_,h,.inr ⟨c,hc,rfl,h0⟩⟩
   · exact .inr h
 rcases key l.length (Zn _) with h|h
 · exact ⟨l.length,0,h,.inl ⟨rfl,rfl⟩⟩
 · exact h
theorem Quz {N:Qaj}{l:List Chn}:∀ {i:Nat},(∀ (j:Nat) (c:Chn),j<i→l[j]?=some c→Qdp N (l.take j) c=0)→Qbj N (l.take i)
 | 0,_=>⟨fun c hc=>by simp at hc,by simp⟩
 | i+1,h=>by
  have ih:=Quz (i:=i) (fun j c hj=>h j c (by omega))
  cases hc:l[i]? with
  | none =>
   have hl:=List.getElem?_eq_none_iff.1 hc;rw [List.take_of_length_le (by omega)];rw [List.take_of_length_le hl] at ih;exact ih
  | some c =>
   have h0:=h i c (by omega) hc;unfold Qdp at h0
   split at h0
   · rename_i h1;exact absurd h0 h1
   · rename_i h1
     split at h0
     · cases h0
     · rename_i h2
       rw [List.take_succ_eq_append_getElem (Zs hc).1,(Zs hc).2];refine ⟨fun d hd=>?_,?_⟩
       · rcases List.mem_append.1 hd with hd|hd
         · exact ih.all d hd
         · rw [List.mem_singleton.1 hd]
           exact Qja.1 (Classical.not_not.1 h1)
       · rw [List.map_append,List.nodup_append]
         refine ⟨ih.keys,by simp,fun a ha b hb e=>?_⟩;subst e;simp at hb;subst hb;exact h2 ha
theorem Vd.ok {N:Qaj}{l:List Chn}{i:Nat}(h:Vd N l i 0):Qbj N l:=by
 rcases h.at_ with ⟨rfl,_⟩|⟨c,_,_,h3⟩
 · have:=Quz h.pre
   rwa [List.take_length] at this
 · exact absurd rfl h3
theorem Qbj.step {N:Qaj}{l:List Chn}(h:Qbj N l){j:Nat}{c:Chn} (hc:l[j]?=some c):Qdp N (l.take j) c=0:=by
 unfold Qdp;rw [if_neg (by rw [Qja.2 (h.all c (Zm hc))];simp),if_neg (fun hm=>?_)];obtain ⟨d,hd,e⟩:=List.mem_map.1 hm;obtain ⟨k,hk⟩:=List.getElem?_of_mem hd;have hkj:k<j:=by have:=(Zs hk).1;rw [List.length_take] at this;omega
 rw [List.getElem?_take_of_lt hkj] at hk;have e1:(l.map Chn.key)[k]?=some c.key:=by rw [List.getElem?_map,hk];simp [e]
 have e2:(l.map Chn.key)[j]?=some c.key:=by rw [List.getElem?_map,hc];rfl
 have hkl:=(Zs e1).1;have hjl:=(Zs e2).1;have:=(List.getElem?_inj hkl h.keys).1 (e1.trans e2.symm);omega
theorem Qbj.vd {N:Qaj}{l:List Chn}(h:Qbj N l):Vd N l l.length 0:=⟨fun _ _ _ hc=>h.step hc,.inl ⟨rfl,rfl⟩⟩
theorem Vd.here {N:Qaj}{l:List Chn}{i j:Nat}{e:Int}{c:Chn}(h:Vd N l i e) (hc:l[j]?=some c) (hj:j≤i) (hs:Qdp N (l.take j) c≠0):j=i∧e=Qdp N (l.take j) c:=by
 have hji:j=i:=by
  rcases Nat.lt_or_ge j i with h1|h1
  · exact absurd (h.pre j c h1 hc) hs
  · omega
 subst hji;refine ⟨rfl,?_⟩
 rcases h.at_ with ⟨h1,_⟩|⟨d,h1,h2,_⟩
 · rw [List.getElem?_eq_none (by omega)] at hc;cases hc
 · rw [hc] at h1
   cases h1
   exact h2.symm
theorem Vd.on {N:Qaj}{l:List Chn}{i j:Nat}{e:Int}{c:Chn}(h:Vd N l i e) (hc:l[j]?=some c) (hj:j≤i) (hs:Qdp N (l.take j) c=0):j+1≤i:=by
 rcases Nat.lt_or_ge j i with h1|h1
 · exact h1
 · obtain rfl:j=i:=by omega
   rcases h.at_ with ⟨h1,_⟩|⟨d,h1,h2,h3⟩
   · rw [List.getElem?_eq_none (by omega)] at hc;cases hc
   · rw [hc] at h1
     cases h1
     exact absurd (h2.symm.trans hs) h3
--ENDPLAIN
end Go.Proofs.YthoagdpakddbdaaGreatDoor
namespace Go.Proofs.YthoagdpakddbdaaGreatDoor
open Go.RowKit Go.Proofs.Tryz
attribute [local go_sem ↓] Go.wp_at_zero Go.wp_at_succ
set_option maxHeartbeats 2000000 in
theorem Qsq (C:Option Addr)(k e:Nat)(N:Qaj)(w:World)(x y z u v:Int)(h:RdY w C k N.ts)(b:Bool) (hb:b=true↔Qml N (x,y,z,u,v)) :
 Calls prog 145 #[.slice C k e,.agg #[.int .i64 x,.int .i64 y,.int .i64 z,.int .i64 u,.int .i64 v]] w fun r w'=>r=.returned (.bool b)∧Below w.heap.size w w':=by
 have HR:=Zh h
 have nb:¬Qml N (x,y,z,u,v)→b=false:=fun hn=>by
  cases b
  · rfl
  · exact absurd (hb.1 rfl) hn
 have pb:=hb.2;have hkl:=h.1;clear h hb
 by_cases hy0:y<0
 · obtain rfl:b=false:=nb (fun ht=>by have:=ht.1;simp only at this;omega)
   clear nb pb
   go_enter func145,ntmps145
   go_wp2_with fail
   go_ret
   exact ⟨rfl,Qae⟩
 by_cases hyk:(k:Int)≤y
 · obtain rfl:b=false:=nb (fun ht=>by
    obtain ⟨_,t,h1,_⟩:=ht;have:=(Zs h1).1;simp only at this;omega)
   clear nb pb
   go_enter func145,ntmps145
   go_wp2_with fail
   go_ret
   exact ⟨rfl,Qae⟩
 obtain ⟨p,rfl⟩:∃ p:Nat,y=p:=⟨y.toNat,by omega⟩;have hpk:p<k:=by omega
 obtain ⟨tb,to_,t,rfl,ht,c0,c1,A2,n2,c2,c3,hr,hcap⟩:=HR.out.at_ hpk;obtain ⟨ti,tO,cs⟩:=t;simp only at c0 c1 hr
 have tB:Qml N (x,(p:Int),z,u,v)↔(0≤z∧z<ti∧0≤u∧u<tO):=by
  unfold Qml;simp only [Int.toNat_natCast]
  constructor
  · rintro ⟨_,t',h1,h2⟩
    rw [ht] at h1
    cases h1
    exact h2
  · intro h
    exact ⟨by omega,_,ht,h⟩
 rw [tB] at nb pb;have i3:(0:Int)≤(p:Int):=by omega
 have i4:(p:Int)<(k:Int):=by omega
 have hlt:=Qag c0;simp only at hlt;clear tB ht hr hcap hkl HR
 by_cases h1:0≤z
 rotate_left
 · obtain rfl:b=false:=nb (fun h=>h1 h.1)
   clear nb pb
   go_enter func145,ntmps145
   go_wp2_with fail
   go_ret
   exact ⟨rfl,Qae⟩
 by_cases h2:z<ti
 rotate_left
 · obtain rfl:b=false:=nb (fun h=>h2 h.2.1)
   clear nb pb
   go_enter func145,ntmps145
   go_wp2_with fail
   go_ret
   exact ⟨rfl,Qae⟩
 by_cases h3:0≤u
 rotate_left
 · obtain rfl:b=false:=nb (fun h=>h3 h.2.2.1)
   clear nb pb
   go_enter func145,ntmps145
   go_wp2_with fail
   go_ret
   exact ⟨rfl,Qae⟩
 by_cases h4:u<tO
 rotate_left
 · obtain rfl:b=false:=nb (fun h=>h4 h.2.2.2)
   clear nb pb
   go_enter func145,ntmps145
   go_wp2_with fail
   go_ret
   exact ⟨rfl,Qae⟩
 obtain rfl:b=true:=pb ⟨h1,h2,h3,h4⟩;clear nb pb
 go_enter func145,ntmps145
 go_wp2_with fail
 go_ret
 exact ⟨rfl,Qae⟩
open Classical in
theorem Qvb (N:Qaj)(x y z u v:Int):Qpj N (x,y,z,u,v)=if x=1 then (if z≠0∨u≠0 then 1 else if ¬(0≤y∧y<(N.ar.length:Int)) then 5 else if wOk v=true then 0 else 8) else if x=2 then (if ¬Qml N (x,y,z,u,v) then 5 else if wOk v=true then 0 else 8) else 1:=rfl
set_option maxRecDepth 20000 in
set_option maxHeartbeats 4000000 in
theorem Qth (g:Nat)(C:Option Addr)(k e:Nat)(N:Qaj)(w:World)(x y z u v:Int)(hg:Qgk w g N)(h:RdY w C k N.ts) :
 Calls prog 105 #[.pointer (some ⟨g,0,none⟩),.slice C k e,.agg #[.int .i64 x,.int .i64 y,.int .i64 z,.int .i64 u,.int .i64 v]] w fun r w'=>r=.returned (.int .i64 (Qpj N (x,y,z,u,v)))∧Below w.heap.size w w':=by
 have HGA:=Zh (fun (V:World) (hV:Below w.heap.size w V)=>Qgu g N V (hg.below hV));have HIT:=Zh (fun (V:World) (hV:Below w.heap.size w V) b hb=>Qsq C k e N V x y z u v (h.below hV) b hb);obtain ⟨E,hE⟩:∃ E,E=Qpj N (x,y,z,u,v):=⟨_,rfl⟩;rw [←hE];rw [Qvb] at hE;clear hg h
 by_cases hx1:x=1
 · rw [if_pos hx1] at hE
   subst hx1
   by_cases hz:z=0
   rotate_left
   · rw [if_pos (.inl hz)] at hE
     subst hE
     go_enter func105,ntmps105
     go_wp2_with fail
     go_ret
     exact ⟨rfl,Qae⟩
   by_cases hu:u=0
   rotate_left
   · rw [if_pos (.inr hu)] at hE
     subst hE;subst hz
     go_enter func105,ntmps105
     go_wp2_with fail
     go_ret
     exact ⟨rfl,Qae⟩
   rw [if_neg (by rintro (h|h);exact h hz;exact h hu)] at hE;subst hz;subst hu
   by_cases hy0:y<0
   · rw [if_pos (by omega)] at hE
     subst hE
     go_enter func105,ntmps105
     go_wp2_with fail
     (refine Qah ?_;intro w1 hw1)
     have hb1:Below w.heap.size w w1:=by rw [hw1];exact Qae
     have hX:Blk w1 w.heap.size 83 #[.int .i64 1,.int .i64 y,.int .i64 0,.int .i64 0,.int .i64 v]:=by rw [hw1];exact Qau
     clear hw1;have HSX:=Zh (show ∀ V,Blk V w.heap.size 83 #[.int .i64 1,.int .i64 y,.int .i64 0,.int .i64 0,.int .i64 v]→V.cell? ⟨w.heap.size,0,none⟩=some (.int .i64 1)∧V.cell? ⟨w.heap.size,1,none⟩=some (.int .i64 y) from fun V hV=>⟨Zq hV,Zq hV⟩)
     refine wp_region_held_drew (S:=fun V=>Blk V w.heap.size 83 #[.int .i64 1,.int .i64 y,.int .i64 0,.int .i64 0,.int .i64 v]) (by kernel_rfl) hX.drew (fun _=>?_);refine tz 0 31 ?_;refine tz 1 32 ?_;refine tz 2 33 ?_;refine tz 3 34 ?_;refine tz 4 35 ?_;refine tz 5 36 ?_;refine tz 6 37 ?_;refine tz 7 38 ?_;refine tw 8 39 ?_;refine tw 9 40 ?_;refine tw 10 41 ?_;refine tw 11 42 ?_;refine tw 12 43 ?_;refine tz 13 44 ?_;refine tz 14 45 ?_;refine tz 15 30 ?_;refine Zd ?_;clear HSX
     go_wp2_with fail
     go_ret
     exact ⟨rfl,Qae⟩
   by_cases hyn:(N.ar.length:Int)≤y
   · rw [if_pos (by omega)] at hE
     subst hE
     go_enter func105,ntmps105
     go_wp2_with fail
     (refine Qah ?_;intro w1 hw1)
     have hb1:Below w.heap.size w w1:=by rw [hw1];exact Qae
     have hX:Blk w1 w.heap.size 83 #[.int .i64 1,.int .i64 y,.int .i64 0,.int .i64 0,.int .i64 v]:=by rw [hw1];exact Qau
     clear hw1;have HSX:=Zh (show ∀ V,Below w1.heap.size w1 V→V.cell? ⟨w.heap.size,0,none⟩=some (.int .i64 1)∧V.cell? ⟨w.heap.size,1,none⟩=some (.int .i64 y)∧decide (y<0)=false from fun V hV=>⟨by rw [(hX.below hV hX.lt).cell];rfl,by rw [(hX.below hV hX.lt).cell];rfl,decide_eq_false (by omega)⟩)
     refine wp_region_held_drew (S:=fun V=>Below w1.heap.size w1 V) (by kernel_rfl) (Zr _ _).drew (fun _=>?_);refine tz 0 31 ?_;refine tz 1 32 ?_;refine tz 2 33 ?_;refine tz 3 34 ?_;refine tz 4 35 ?_;refine tz 5 36 ?_;refine tz 6 37 ?_;refine tz 7 38 ?_;refine tz 8 39 ?_;refine tz 9 40 ?_;refine tz 10 41 ?_;refine Zk 11 (fun K hK=>?_);go_simp;with_reducible refine (HGA.out _ (Zb hb1 (Zr _ _).drew)).mono ?_
     rintro r w' ⟨rfl,rfl⟩;go_simp;refine hK.out _ _ (Zr _ _).drew (fun _=>?_);clear hK K;refine tz 12 43 ?_;refine tz 13 44 ?_;refine tz 14 45 ?_;refine tz 15 30 ?_;refine Zd ?_;clear HSX
     go_wp2_with fail
     go_ret
     exact ⟨rfl,Qae⟩
   rw [if_neg (by omega)] at hE;have hyn':y<(N.ar.length:Int):=by omega
   go_enter func105,ntmps105
   go_wp2_with fail
   (refine Qah ?_;intro w1 hw1)
   have hb1:Below w.heap.size w w1:=by rw [hw1];exact Qae
   have hX:Blk w1 w.heap.size 83 #[.int .i64 1,.int .i64 y,.int .i64 0,.int .i64 0,.int .i64 v]:=by rw [hw1];exact Qau
   clear hw1;have HSX:=Zh (show ∀ V,Below w1.heap.size w1 V→V.cell? ⟨w.heap.size,0,none⟩=some (.int .i64 1)∧V.cell? ⟨w.heap.size,1,none⟩=some (.int .i64 y)∧decide (y<0)=false∧decide ((N.ar.length:Int)≤y)=false from fun V hV=>⟨by rw [(hX.below hV hX.lt).cell];rfl,by rw [(hX.below hV hX.lt).cell];rfl,decide_eq_false (by omega),decide_eq_false (by omega)⟩)
   refine wp_region_held_drew (S:=fun V=>Below w1.heap.size w1 V) (by kernel_rfl) (Zr _ _).drew (fun _=>?_);refine tz 0 31 ?_;refine tz 1 32 ?_;refine tz 2 33 ?_;refine tz 3 34 ?_;refine tz 4 35 ?_;refine tz 5 36 ?_;refine tz 6 37 ?_;refine tz 7 38 ?_;refine tz 8 39 ?_;refine tz 9 40 ?_;refine tz 10 41 ?_;refine Zk 11 (fun K hK=>?_);go_simp;with_reducible refine (HGA.out _ (Zb hb1 (Zr _ _).drew)).mono ?_
   rintro r w' ⟨rfl,rfl⟩;go_simp;refine hK.out _ _ (Zr _ _).drew (fun _=>?_);clear hK K;refine tz 12 43 ?_;refine tz 13 44 ?_;refine tz 14 45 ?_;refine tz 15 30 ?_;refine Zd ?_;clear HSX;have x0:=hX.cell 0;have x4:=hX.cell 4;simp only [List.getElem?_toArray,List.getElem?_cons_zero,List.getElem?_cons_succ] at x0 x4
   go_wp2_with fail
   with_reducible refine (Qbq v _).mono ?_
   rintro r w' ⟨rfl,rfl⟩
   cases hw:wOk v with
   | true =>
    rw [hw,if_pos rfl] at hE;subst hE
    go_wp2_with fail
    go_ret
    exact ⟨rfl,Qae⟩
   | false =>
    rw [hw,if_neg (by simp)] at hE;subst hE
    go_wp2_with fail
    go_ret
    exact ⟨rfl,Qae⟩
 · rw [if_neg hx1] at hE
   by_cases hx2:x=2
   rotate_left
   · rw [if_neg hx2] at hE
     subst hE;have e1:(x != 1)=true:=by simpa using hx1
     have e2:(x != 2)=true:=by simpa using hx2
     have e3:(x == 1)=false:=by simpa using hx1
     have e4:(x == 2)=false:=by simpa using hx2
     clear hx1 hx2
     go_enter func105,ntmps105
     go_wp2_with fail
     go_ret
     exact ⟨rfl,Qae⟩
   rw [if_pos hx2] at hE;subst hx2;clear hx1
   obtain ⟨tb,htb⟩:∃ b:Bool,b=true↔Qml N (2,y,z,u,v):=by
    by_cases ht:Qml N (2,y,z,u,v)
    · exact ⟨true,by simp [ht]⟩
    · exact ⟨false,by simp [ht]⟩
   have HTB:=Zh htb;clear htb
   go_enter func105,ntmps105
   go_wp2_with fail
   (refine Qah ?_;intro w1 hw1)
   have hb1:Below w.heap.size w w1:=by rw [hw1];exact Qae
   have hX:Blk w1 w.heap.size 83 #[.int .i64 2,.int .i64 y,.int .i64 z,.int .i64 u,.int .i64 v]:=by rw [hw1];exact Qau
   clear hw1;have HSX:=Zh (show ∀ V,Below w1.heap.size w1 V→V.cell? ⟨w.heap.size,0,none⟩=some (.int .i64 2) from fun V hV=>by rw [(hX.below hV hX.lt).cell];rfl)
   refine wp_region_held_drew (S:=fun V=>Below w1.heap.size w1 V) (by kernel_rfl) (Zr _ _).drew (fun _=>?_);refine tz 0 31 ?_;refine tz 1 32 ?_;refine tz 2 33 ?_;refine tz 3 34 ?_;refine tw 4 35 ?_;refine tw 5 36 ?_;refine tw 6 37 ?_;refine tw 7 38 ?_;refine tw 8 39 ?_;refine tw 9 40 ?_;refine tw 10 41 ?_;refine tw 11 42 ?_;refine tw 12 43 ?_;refine tw 13 44 ?_;refine tz 14 45 ?_;refine tz 15 30 ?_;refine Zd ?_;clear HSX
   obtain ⟨x0,x1,x2,x3,x4⟩:w1.cell? ⟨w.heap.size,0,none⟩=some (.int .i64 2)∧w1.cell? ⟨w.heap.size,1,none⟩=some (.int .i64 y)∧w1.cell? ⟨w.heap.size,2,none⟩=some (.int .i64 z)∧w1.cell? ⟨w.heap.size,3,none⟩=some (.int .i64 u)∧w1.cell? ⟨w.heap.size,4,none⟩=some (.int .i64 v) :=
    ⟨Zq hX,Zq hX,Zq hX,Zq hX,Zq hX⟩
   go_wp2_with fail
   with_reducible refine (HIT.out _ (Zb hb1 (Zr _ _).drew) tb HTB.out).mono ?_
   rintro r w2 ⟨rfl,hb2⟩;have hb2':Below w1.heap.size w1 w2:=(Zr _ _).drew.trans hb2;have hX2:=hX.below hb2' hX.lt;have xl:=hX2.lt;have hbw2:=Zb hb1 hb2';clear x0 x1 x2 x3 x4 hX hb1 hb2 hb2';have x4:=hX2.cell 4;simp only [List.getElem?_toArray,List.getElem?_cons_zero,List.getElem?_cons_succ] at x4
   cases tb with
   | false =>
    rw [if_pos (fun ht=>by have:=HTB.out.2 ht;cases this)] at hE
    subst hE
    go_wp2_with fail
    go_ret
    exact ⟨rfl,Qae⟩
   | true =>
    rw [if_neg (not_not_intro (HTB.out.1 rfl))] at hE;have HE:=Zh hE;clear hE
    go_wp2_with fail
    with_reducible refine (Qbq v _).mono ?_
    rintro r w' ⟨rfl,rfl⟩;have hE:=HE.out
    cases hw:wOk v with
    | true =>
     rw [hw,if_pos rfl] at hE;subst hE
     go_wp2_with fail
     go_ret
     exact ⟨rfl,Qae⟩
    | false =>
     rw [hw,if_neg (by simp)] at hE;subst hE
     go_wp2_with fail
     go_ret
     exact ⟨rfl,Qae⟩
end Go.Proofs.YthoagdpakddbdaaGreatDoor
