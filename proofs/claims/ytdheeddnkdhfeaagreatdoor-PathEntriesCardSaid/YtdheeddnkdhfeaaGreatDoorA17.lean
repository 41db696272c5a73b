/- Parts of the proof: Yc, Yd, Pp, AsL, RoP, RoQ, RfC, RoM, RoR. -/
import Derived.Test.YtdheeddnkdhfeaaGreatDoorA16
namespace Go.Proofs.YtdheeddnkdhfeaaGreatDoor
open Go.RowKit Go.Proofs.Tryz
def OpS (N:Qam)(l:List Int)(c:Int)(to b:Nat)(p d:Int):Prop:=∃ y,N.ar[b]?=some y∧p≠1152921504606846976∧((b=to∧d=p)∨(b≠to∧Qaa l y.1=c∧Qaa l y.2.1=c∧y.2.2≠1152921504606846976∧d=p+y.2.2))
def StQ (N:Qam)(l:List Int)(c:Int)(to:Nat)(Pr:Nat→Nat→Int→Prop):Qbd:=fun a b d=>a≠to∧∃ p,Pr a b p∧OpS N l c to b p d
def PrT (N:Qam)(a b:Nat)(p:Int):Prop:=p=Qaq N a b
structure Qhc (N:Qam) (l:List Int) (c:Int) (s to:Nat) (v:Int):Prop where
 sy:∃ y,N.ar[s]?=some y∧Qaa l y.1≠c∧Qaa l y.2.1=c
 tz:∃ z,N.ar[to]?=some z∧Qaa l z.1=c∧Qaa l z.2.1≠c
 ent:Qfi N (Qbv l c) s to v
 fin:v≠1152921504606846976
section
variable {N:Qam} {l lb:List Int} {c:Int} {s to a b p:Nat} {v d e:Int}
theorem Qhc.ne (h:Qhc N l c s to v):s≠to:=fun e=>by
 obtain ⟨y,hy,h1,h2⟩:=h.sy;obtain ⟨z,hz,g1,g2⟩:=h.tz;subst e;rw [hy] at hz
 cases hz
 exact g2 h2
theorem Qhc.in_ne (h:Qhc N l c s to v){y:Tri} (hy:N.ar[a]?=some y) (hc:Qaa l y.2.1=c):a≠to:=fun e=>by
 obtain ⟨z,hz,g1,g2⟩:=h.tz;subst e;rw [hy] at hz
 cases hz
 exact g2 hc
theorem Qhc.bd (hok:Qap N)(h:Qhc N l c s to v):0≤v∧v≤70375186628608:=(h.ent.bd hok).resolve_left h.fin
theorem Qhc.out (h:Qhc N l c s to v):Qqw (StA N (Qbv l c)) (OuA N) s to v∧∀ e,Qqw (StA N (Qbv l c)) (OuA N) s to e→v≤e:=by
 rcases h.ent with h1|⟨h1,_⟩
 · exact h1
 · exact absurd h1 h.fin
theorem OpS.fn {d':Int}(h:OpS N l c to b v d)(g:OpS N l c to b v d'):d=d':=by
 obtain ⟨y,hy,_,h1⟩:=h;obtain ⟨z,hz,_,h2⟩:=g;rw [hy] at hz
 cases hz
 rcases h1 with ⟨e,h1⟩|⟨e,_,_,_,h1⟩ <;> rcases h2 with ⟨e',h2⟩|⟨e',_,_,_,h2⟩
 · rw [h1,h2]
 · exact absurd e e'
 · exact absurd e' e
 · rw [h1,h2]
theorem OpS.bd (hok:Qap N)(h:OpS N l c to b v d)(h0:0≤v∧v≤70375186628608):0≤d∧d≤80000000000000∧b<N.ar.length:=by
 obtain ⟨y,hy,_,h1⟩:=h;have hb:=(Zs hy).1
 rcases h1 with ⟨e,h1⟩|⟨e,_,_,h2,h1⟩
 · exact ⟨by omega,by omega,hb⟩
 · have:=(Qdq (hok.arcs y (Zm hy)).w).resolve_left h2
   exact ⟨by omega,by omega,hb⟩
/-! Level 1: from arc to arc. -/
theorem stO_fwd (hok:Qap N)(hl:l.length=N.vs.length)(hh:Qhc N l c s to v) (h:Rch (StQ N l c to (PrT N)) s p e):(p≠to→Rch (StA N (Qbv l c)) s p e∧∃ y,N.ar[p]?=some y∧Qaa l y.2.1=c)∧(p=to→Qqw (StA N (Qbv l c)) (OuA N) s to e):=by
 induction h with
 | start =>
  obtain ⟨y,hy,_,h2⟩:=hh.sy;exact ⟨fun _=>⟨.start,y,hy,h2⟩,fun e=>absurd e hh.ne⟩
 | @step p q e d h1 h2 ih =>
  obtain ⟨hp,pr,rfl,y,hy,hfin,hst⟩:=h2;obtain ⟨ih1,x,hx,hxc⟩:=ih.1 hp;obtain ⟨x',y',hx',hy',em⟩:=Qbu hfin;rw [hx] at hx'
  cases hx'
  rw [hy] at hy'
  cases hy'
  rcases hst with ⟨rfl,rfl⟩|⟨hq,h3,h4,h5,rfl⟩
  · exact ⟨fun e=>absurd rfl e,fun _=>⟨p,e,Qaq N p q,ih1,⟨hfin,rfl⟩,rfl⟩⟩
  · exact ⟨fun _=>⟨ih1.step ((Qbz hok hl).2 ⟨x,y,hx,hy,em,hfin,h5,h3,h4,rfl⟩),y,hy,h4⟩,fun e=>absurd e hq⟩
theorem stA_o (hok:Qap N)(hl:l.length=N.vs.length)(hh:Qhc N l c s to v)(hp:p≠to) (h:StA N (Qbv l c) p b d):StQ N l c to (PrT N) p b d∧b≠to:=by
 obtain ⟨x,y,hx,hy,e1,h1,h2,h3,h4,rfl⟩:=(Qbz hok hl).1 h;have hb:=hh.in_ne hy h4;exact ⟨⟨hp,_,rfl,y,hy,h1,.inr ⟨hb,h3,h4,h2,rfl⟩⟩,hb⟩
theorem stO_bwd (hok:Qap N)(hl:l.length=N.vs.length)(hh:Qhc N l c s to v) (h:Rch (StA N (Qbv l c)) s p e):Rch (StQ N l c to (PrT N)) s p e∧p≠to:=by
 induction h with
 | start=>exact ⟨.start,hh.ne⟩
 | step _ h2 ih =>
  have:=stA_o hok hl hh ih.2 h2;exact ⟨ih.1.step this.1,this.2⟩
theorem Qhc.ok0 (hok:Qap N)(hl:l.length=N.vs.length)(hh:Qhc N l c s to v):Qxq (StQ N l c to (PrT N)) s to N.ar.length v:=by
 obtain ⟨y,hy,_,_⟩:=hh.sy;obtain ⟨z,hz,_,_⟩:=hh.tz;refine ⟨fun p q d h=>?_,(Zs hy).1,?_,fun e h=>hh.out.2 e ((stO_fwd hok hl hh h).2 rfl),(hh.bd hok).2⟩
 · obtain ⟨_,pr,rfl,ho⟩:=h
   have hf:Qaq N p q≠1152921504606846976:=by obtain ⟨_,_,h,_⟩:=ho;exact h
   have:=(Qcu hok p q).resolve_left hf;exact ho.bd hok (by omega)
 · obtain ⟨p,c1,d,h1,⟨h2,rfl⟩,rfl⟩:=hh.out.1
   obtain ⟨g1,g2⟩:=stO_bwd hok hl hh h1;exact g1.step ⟨g2,_,rfl,z,hz,h2,.inl ⟨rfl,rfl⟩⟩
theorem nxO_flat (hok:Qap N){x:Tri} (hx:N.ar[a]?=some x) (ha:a≠to):NxO N (StQ N l c to (PrT N)) (OpS N l c to) a (idx (·.1) N.ar x.2.1) ((idx (·.1) N.ar x.2.1).map (fun b=>Qaq N a b.toNat)):=by
 refine ⟨by simp,fun k o v ho hv=>?_,fun b d hd=>?_⟩
 · obtain ⟨b,y,rfl,hy,hf⟩:=Qfm.1 (Zm ho)
   rw [Yt,ho] at hv;have hv':Qaq N a b=v:=by simpa using hv
   subst hv';have hb:=Qcu hok a b;exact ⟨b,y,rfl,hy,by omega,by omega,fun d hd=>⟨ha,_,rfl,hd⟩⟩
 · obtain ⟨_,pr,rfl,ho⟩:=hd
   obtain ⟨y,hy,hf,_⟩:=id ho;obtain ⟨x',y',hx',hy',e⟩:=Qbu hf;rw [hx] at hx'
   cases hx'
   rw [hy] at hy'
   cases hy'
   obtain ⟨k,hk⟩:=Yr (Qfm.2 ⟨b,y,rfl,hy,e.symm⟩:(b:Int)∈idx (·.1) N.ar x.2.1);exact ⟨k,Qaq N a b,hk,by rw [Yt,hk];simp,ho⟩
end
/-! Above level 1: by entries of kids. -/
structure Qrr (N:Qam) (l lb:List Int) (c:Nat) (x:Qak):Prop where
 ok:Qap N
 hl:l.length=N.vs.length
 hb:lb.length=N.vs.length
 hn:Qdo lb l
 hx:(Qaf N.ar l)[c]?=some x
 hE:∀ (a m:Nat) (y z:Tri),N.ar[a]?=some y→N.ar[m]?=some z→Qaa lb y.1≠Qaa lb y.2.1→Qaa lb z.1=Qaa lb y.2.1→Qaa lb z.2.1≠Qaa lb y.2.1→∃ v,Qfi N (Qbv lb (Qaa lb y.2.1)) a m v
section
variable {N:Qam} {l lb:List Int} {c:Nat} {x:Qak} {s to a b p:Nat} {v d e:Int}
theorem Qrr.nest (h:Qrr N l lb c x){k:Nat} (hk:(k:Int)∈x.2):Qin (StA N (Qbv l c)) (fun a t d=>OuA N a t d∧t=k) (StK N l lb c) (fun a m v=>∃ y,N.ar[a]?=some y∧Qfi N (Qbv lb (Qaa lb y.2.1)) a m v) (fun a m d=>StC N lb x a m d∧Qcg N l lb c a∧Qcg N l lb c m) (fun a t d=>OuC N lb x a t d∧Qcg N l lb c a∧t=k) (Qcg N l lb c) (wV N) (OuA N) :=
 Qyk h.ok h.hl h.hb h.hn h.hx (fun a m y z ⟨y',hy',h1,_⟩ hy hz h2 h3=>by
  rw [hy] at hy'
  cases hy'
  exact h.hE a m y z hy hz h1 h2 h3) hk
theorem Qrr.to_in (h:Qrr N l lb c x)(hh:Qhc N l c s to v):(to:Int)∈x.2:=(Qbo h.hx).2 hh.tz
theorem Qrr.start (h:Qrr N l lb c x)(hh:Qhc N l c s to v):Qcg N l lb c s:=by
 obtain ⟨y,hy,h1,h2⟩:=hh.sy;have hm:=Zm hy;refine ⟨y,hy,fun e=>h1 ?_,h2⟩;rw [←Qhg h.ok h.hl h.hb h.hn hm y.2.1 y.1 rfl (.inr rfl) hm e.symm];exact h2
theorem stO_c (h:Qrr N l lb c x)(ha:Qcg N l lb c a)(hb:b≠to) (hs:StQ N l c to (Qcs N lb) a b d):StC N lb x a b d∧Qcg N l lb c a∧Qcg N l lb c b:=by
 obtain ⟨_,pr,⟨y,z,hy,hz,k1,k2,k3,k4⟩,z',hz',hf,ho⟩:=hs;rw [hz] at hz'
 cases hz'
 rcases ho with ⟨e,_⟩|⟨_,h1,h2,h3,rfl⟩
 · exact absurd e hb
 · refine ⟨⟨pr,⟨y,z,hy,hz,k1,k2,k3,h3,rfl,k4⟩,hf,fun hm=>?_⟩,ha,z,hz,fun e=>k3 (by rw [←e];exact k2),h2⟩
   obtain ⟨z',hz',_,g⟩:=(Qbo h.hx).1 hm;rw [hz] at hz'
   cases hz'
   exact g h2
theorem c_stO (h:Qrr N l lb c x) (hto:(to:Int)∈x.2) (hs:StC N lb x a b d∧Qcg N l lb c a∧Qcg N l lb c b):StQ N l c to (Qcs N lb) a b d∧b≠to:=by
 obtain ⟨⟨v,⟨y,z,hy,hz,k1,k2,k3,k4,rfl,k5⟩,h5,h6⟩,⟨y',hy',_,g2⟩,⟨z',hz',_,g4⟩⟩:=hs;rw [hy] at hy'
 cases hy'
 rw [hz] at hz'
 cases hz'
 have hin:∀ q w,N.ar[q]?=some w→Qaa l w.2.1=c→q≠to:=fun q w hq hc e=>by
  subst e;obtain ⟨w',hw',_,g⟩:=(Qbo h.hx).1 hto;rw [hq] at hw'
  cases hw'
  exact g hc
 have hbt:=hin b z hz g4;refine ⟨⟨hin a y hy g2,v,⟨y,z,hy,hz,k1,k2,k3,k5⟩,z,hz,h5,.inr ⟨hbt,?_,g4,k4,rfl⟩⟩,hbt⟩;rw [←Qhg h.ok h.hl h.hb h.hn (Zm hy) y.2.1 z.1 rfl (.inr rfl) (Zm hz) k2.symm];exact g2
theorem Qvi (h:Qrr N l lb c x)(hh:Qhc N l c s to v) (hr:Rch (StQ N l c to (Qcs N lb)) s p e):(p≠to→Rch (fun a m d=>StC N lb x a m d∧Qcg N l lb c a∧Qcg N l lb c m) s p e∧Qcg N l lb c p)∧(p=to→Qqw (StA N (Qbv l c)) (OuA N) s to e):=by
 induction hr with
 | start=>exact ⟨fun _=>⟨.start,h.start hh⟩,fun e=>absurd e hh.ne⟩
 | @step p q e d h1 h2 ih =>
  obtain ⟨ih1,hin⟩:=ih.1 h2.1;refine ⟨fun hq=>?_,fun hq=>?_⟩
  · have:=stO_c h hin hq h2
    exact ⟨ih1.step this,this.2.2⟩
  · subst hq
    obtain ⟨_,pr,⟨y,z,hy,hz,k1,k2,k3,k4⟩,z',hz',hf,ho⟩:=h2
    rcases ho with ⟨_,rfl⟩|⟨g,_⟩
    · have hto:=h.to_in hh
      have hN:=h.nest hto;obtain ⟨p',c2,t,g1,g2,rfl⟩:=hN.cout p q d ⟨⟨⟨y,z,hy,hz,k1,k2,k3,k4⟩,hf,hto⟩,hin,rfl⟩;exact ⟨p',e+c2,t,(hN.up ih1).trans (g1.mono hN.sub),g2.1,by omega⟩
    · exact absurd rfl g
theorem Qrr.okK (h:Qrr N l lb c x)(hh:Qhc N l c s to v):Qxq (StQ N l c to (Qcs N lb)) s to N.ar.length v:=by
 obtain ⟨y,hy,_,_⟩:=hh.sy;have hlo:∀ e,Rch (StQ N l c to (Qcs N lb)) s to e→v≤e:=fun e hr=>hh.out.2 e ((Qvi h hh hr).2 rfl)
 refine ⟨fun p q d hs=>?_,(Zs hy).1,?_,hlo,(hh.bd h.ok).2⟩
 · obtain ⟨_,pr,⟨y,z,hy,hz,k1,k2,k3,k4⟩,ho⟩:=hs
   have hf:pr≠1152921504606846976:=by obtain ⟨_,_,h,_⟩:=ho;exact h
   exact ho.bd h.ok ((k4.bd h.ok).resolve_left hf)
 · obtain ⟨p,c1,d,h1,h2,e1⟩:=hh.out.1
   have hto:=h.to_in hh;have hN:=h.nest hto;obtain ⟨a,e1,e2,ha,g1,g2,g3⟩:=hN.down (fun p q d _=>Classical.em _) (h.start hh) h1;obtain ⟨d',hd',hle⟩:=hN.cout2 a p to e2 d ha g2 ⟨h2,rfl⟩
   have hup:∀ q f,Rch (fun a m d=>StC N lb x a m d∧Qcg N l lb c a∧Qcg N l lb c m) s q f→Rch (StQ N l c to (Qcs N lb)) s q f:=fun q f hr=>by
    induction hr with
    | start=>exact .start
    | step _ h2 ih=>exact ih.step (c_stO h hto h2).1
   obtain ⟨⟨⟨y,z,hy,hz,k1,k2,k3,k4⟩,hf,_⟩,_,_⟩:=hd'
   have hat:a≠to:=by
    obtain ⟨w,hw,_,hc⟩:=ha;exact hh.in_ne hw hc
   have hr:=(hup a e1 g1).step (show StQ N l c to (Qcs N lb) a to d' from ⟨hat,d',⟨y,z,hy,hz,k1,k2,k3,k4⟩,z,hz,hf,.inl ⟨rfl,rfl⟩⟩)
   have:=hlo _ hr;rw [show v=e1+d' by omega]
   exact hr
theorem nxO_kid (hok:Qap N) {ls:List (List Int)} {cl:List Int} (hA:Qcy N ls cl) {j i k:Nat} {y:Tri} {x:Qak} (hl:ls[j]?=some lb) (hy:N.ar[a]?=some y) (hg:Qaa lb y.1≠Qaa lb y.2.1) (ha:a≠to)
 (hc:Qaa lb y.2.1=(k:Int)) (hx:(Qaf N.ar lb)[k]?=some x) (hi:x.1[i]?=some (a:Int)):NxO N (StQ N l c to (Qcs N lb)) (OpS N l c to) a x.2 ((cl.drop (Qey (Qac N.ar ls) (Qaf N.ar lb) j k x i 0)).take x.2.length):=by
 have hat:∀ (k':Nat) (o:Int),x.2[k']?=some o→∃ (b:Nat) (z:Tri) (v:Int),o=(b:Int)∧N.ar[b]?=some z∧Qaa lb z.1=(k:Int)∧Qaa lb z.2.1≠(k:Int)∧((cl.drop (Qey (Qac N.ar ls) (Qaf N.ar lb) j k x i 0)).take x.2.length)[k']?=some v∧Qfi N (Qbv lb k) a b v:=by
  intro k' o ho;have hk:=(Zs ho).1;have hm:=Zm ho;obtain ⟨b,rfl⟩:=Qcz hx ho;obtain ⟨z,hz,h1,h2⟩:=(Qbo hx).1 hm;obtain ⟨v,hv,hv2⟩:=hA.at_ (show Qfg N ls (Qey (Qac N.ar ls) (Qaf N.ar lb) j k x i k') j lb k x i k' a b from ⟨hl,hx,hi,ho,rfl⟩)
  exact Kcc
 have hlen:((cl.drop (Qey (Qac N.ar ls) (Qaf N.ar lb) j k x i 0)).take x.2.length).length=x.2.length:=by
  exact Kbc
 refine ⟨hlen,fun k' o v ho hv=>?_,fun b d hd=>?_⟩
 · obtain ⟨b,z,v',rfl,hz,h1,h2,h3,h4⟩:=hat k' o ho
   rw [hv] at h3
   cases h3
   have hb:=h4.bd hok;exact ⟨b,z,rfl,hz,by omega,by omega,fun d hd=>⟨ha,v,⟨y,z,hy,hz,hg,by rw [h1,hc],by rw [hc];exact h2,by rw [hc];exact h4⟩,hd⟩⟩
 · obtain ⟨_,v,⟨y',z,hy',hz,_,h5,h6,h8⟩,ho⟩:=hd
   rw [hy] at hy'
   cases hy'
   rw [hc] at h5 h6 h8;obtain ⟨k',hk⟩:=Yr ((Qbo hx).2 ⟨z,hz,h5,h6⟩);obtain ⟨b',z',v',e,hz',_,_,h3,h4⟩:=hat k' _ hk;obtain rfl:b=b':=by omega
   rw [hz] at hz'
   cases hz'
   obtain rfl:=Lst.uniq h8 h4;exact ⟨k',v,hk,h3,ho⟩
end
def Opn (N:Qam)(mk:List Bool)(a b:Nat)(v:Int)(L:List Nat):Prop:=(∃ p c e l,Qdg (StA N mk) a p c l∧OuA N p b e∧v=c+e∧L=l ++[b])∧L.Nodup
section
variable {N:Qam} {l lb:List Int} {s to:Nat} {v:Int} {bs:List Nat} {cs:List Int}
theorem Opn.lt {mk:List Bool}{a b:Nat}{L:List Nat}(h:Opn N mk a b v L):∀ q∈L,q<N.ar.length:=by
 obtain ⟨⟨p,c,e,l,h1,h2,_,rfl⟩,_⟩:=h;intro q hq
 rcases List.mem_append.1 hq with h3|h3
 · obtain ⟨_,_,h4⟩:=h1.mem h3
   exact h4.lt
 · rw [List.mem_singleton] at h3
   subst h3;obtain ⟨_,y,_,hy,_⟩:=Qbu h2.1;exact (Zs hy).1
theorem Opn.len {mk:List Bool}{a b:Nat}{L:List Nat}(h:Opn N mk a b v L):1≤L.length∧L.length≤N.ar.length:=by
 refine ⟨?_,Qfp _ _ h.2 h.lt⟩;obtain ⟨⟨_,_,_,l,_,_,_,rfl⟩,_⟩:=h;simp
structure Way (St:Qbd) (s to:Nat) (v:Int) (bs:List Nat) (cs:List Int):Prop where
 f:Fst St s bs cs
 last:(s::bs)[bs.length]?=some to
 cost:((0:Int)::cs)[bs.length]?=some v
theorem Vi.way {St:Qbd}{bf:List Int}{dn:Nat→Option Int}(h:Vi St s bf dn to v bs cs):Way St s to v bs cs:=⟨h.fst,h.last.2.1,h.last.2.2⟩
theorem Way.pos {St:Qbd}(h:Way St s to v bs cs)(hne:s≠to):0<bs.length:=by
 rcases Nat.eq_zero_or_pos bs.length with h1|h1
 · have:=h.last
   rw [h1] at this;simp at this;exact absurd this hne
 · exact h1
theorem Way.at_ {St:Qbd}(h:Way St s to v bs cs){i:Nat}(hi:i<bs.length):∃ a b c d,(s::bs)[i]?=some a∧bs[i]?=some b∧((0:Int)::cs)[i]?=some c∧St a b d∧cs[i]?=some (c+d):=by
 obtain ⟨a,ha⟩:∃ a,(s::bs)[i]?=some a:=⟨_,Zg (by simp;omega)⟩;obtain ⟨b,hb⟩:∃ b,bs[i]?=some b:=⟨_,Zg hi⟩;obtain ⟨c,hc⟩:∃ c,((0:Int)::cs)[i]?=some c:=⟨_,Zg (by have:=h.f.len;simp;omega)⟩;obtain ⟨d,h1,h2⟩:=h.f.st i a b c ha hb hc;exact ⟨a,b,c,d,ha,hb,hc,h1,h2⟩
theorem Way.to_iff {St:Qbd}(h:Way St s to v bs cs)(hne:s≠to){i:Nat}{b:Nat} (hb:bs[i]?=some b):b=to↔i+1=bs.length:=by
 have hi:=(Zs hb).1;have hb':(s::bs)[i+1]?=some b:=by rw [List.getElem?_cons_succ];exact hb
 constructor
 · intro e
   subst e;exact (List.getElem?_inj (Zs hb').1 h.f.nd).1 (hb'.trans h.last.symm)
 · intro e
   rw [e] at hb';exact Yv (hb'.symm.trans h.last)
theorem Way.lt {St:Qbd}(h:Way St s to v bs cs)(hst:∀ a b d,St a b d→b<N.ar.length):∀ q∈bs,q<N.ar.length:=fun q hq=>by
 obtain ⟨i,hi⟩:=Yr hq;obtain ⟨a,b,c,d,_,hb,_,hs,_⟩:=h.at_ (Zs hi).1;rw [hi] at hb
 cases hb
 exact hst a q d hs
theorem Way.len {St:Qbd}(h:Way St s to v bs cs)(hst:∀ a b d,St a b d→b<N.ar.length):bs.length≤N.ar.length:=Qfp _ _ (List.nodup_cons.1 h.f.nd).2 (h.lt hst)
theorem Qhq {l:List Nat}{i b:Nat} (h:l[i]?=some b):l.take (i+1)=l.take i ++[b]:=by
 rw [List.take_add_one,h]
 rfl
theorem Way.opn0 (hok:Qap N){c:Int}(hl:l.length=N.vs.length)(hh:Qhc N l c s to v) (h:Way (StQ N l c to (PrT N)) s to v bs cs):Opn N (Qbv l c) s to v bs:=by
 have key:∀ i,i<bs.length→∃ a c',(s::bs)[i]?=some a∧((0:Int)::cs)[i]?=some c'∧a≠to∧Qdg (StA N (Qbv l c)) s a c' (bs.take i)∧∃ y,N.ar[a]?=some y∧Qaa l y.2.1=c:=by
  intro i
  induction i with
  | zero =>
   intro _;obtain ⟨y,hy,_,h2⟩:=hh.sy;exact ⟨s,0,rfl,rfl,hh.ne,.start,y,hy,h2⟩
  | succ i ih =>
   intro hi;obtain ⟨a,c',ha,hc,hat,hr,x,hx,hxc⟩:=ih (by omega);obtain ⟨a',b,c'',d,ha',hb,hc',hs,hcs⟩:=h.at_ (show i<bs.length by omega)
   rw [ha] at ha'
   cases ha'
   rw [hc] at hc'
   cases hc'
   have hbt:b≠to:=fun e=>by have:=(h.to_iff hh.ne hb).1 e;omega
   obtain ⟨_,pr,rfl,y,hy,hfin,hst⟩:=hs;obtain ⟨x',y',hx',hy',em⟩:=Qbu hfin;rw [hx] at hx'
   cases hx'
   rw [hy] at hy'
   cases hy'
   rcases hst with ⟨e,_⟩|⟨_,h3,h4,h5,rfl⟩
   · exact absurd e hbt
   · refine ⟨b,_,by rw [List.getElem?_cons_succ];exact hb,by rw [List.getElem?_cons_succ];exact hcs,hbt,?_,y,hy,h4⟩
     rw [Qhq hb];exact hr.step ((Qbz hok hl).2 ⟨x,y,hx,hy,em,hfin,h5,h3,h4,rfl⟩)
 have hp:=h.pos hh.ne;obtain ⟨n,hn⟩:∃ n,bs.length=n+1:=⟨bs.length-1,by omega⟩;obtain ⟨a,c',ha,hc,hat,hr,x,hx,hxc⟩:=key n (by omega);obtain ⟨a',b,c'',d,ha',hb,hc',hs,hcs⟩:=h.at_ (show n<bs.length by omega)
 rw [ha] at ha'
 cases ha'
 rw [hc] at hc'
 cases hc'
 have hbt:b=to:=(h.to_iff hh.ne hb).2 (by omega);subst hbt
 have hv:v=c'+d:=by
  have:=h.cost;rw [hn,List.getElem?_cons_succ,hcs] at this;exact (Yv this).symm
 obtain ⟨_,pr,rfl,y,hy,hfin,hst⟩:=hs
 rcases hst with ⟨_,rfl⟩|⟨g,_⟩
 · refine ⟨⟨a,c',_,bs.take n,hr,⟨hfin,rfl⟩,hv,?_⟩,(List.nodup_cons.1 h.f.nd).2⟩
   rw [←Qhq hb,←hn,List.take_length]
 · exact absurd rfl g
end
/-! Above level 1. -/
structure OwR (N:Qam) (l lb:List Int) (c:Nat) (s to:Nat) (v:Int) (bs:List Nat) (cs:List Int) (m:Nat) (L:List Nat):Prop where
 row:m<bs.length→∃ a e,(s::bs)[m]?=some a∧((0:Int)::cs)[m]?=some e∧Qdg (StA N (Qbv l c)) s a e L
 fin:m=bs.length→Opn N (Qbv l c) s to v L
 nd:L.Nodup
 mem:∀ q∈L,(∃ i,i<m∧bs[i]?=some q)∨(∃ i a y z g e e',i<m∧(s::bs)[i]?=some a∧N.ar[a]?=some y∧N.ar[q]?=some z∧Qaa lb z.1=Qaa lb y.2.1∧Qaa lb z.2.1=Qaa lb y.2.1 ∧
  Rch (StA N (Qbv lb (Qaa lb y.2.1))) a q g∧((0:Int)::cs)[i]?=some e∧cs[i]?=some e'∧e+g≤e')
section
variable {N:Qam} {l lb:List Int} {c:Nat} {x:Qak} {s to:Nat} {v:Int} {bs:List Nat} {cs:List Int} {m:Nat} {L A:List Nat}
theorem OwR.init (hp:0<bs.length):OwR N l lb c s to v bs cs 0 [] :=
 ⟨fun _=>⟨s,0,rfl,rfl,.start⟩,fun e=>by omega,by simp,fun q hq=>by cases hq⟩
theorem Fst.up {St:Qbd}(h:Fst St s bs cs)(h0:∀ a b d,St a b d→0≤d):∀ (k i:Nat) (e e':Int),((0:Int)::cs)[i]?=some e→((0:Int)::cs)[i+k]?=some e'→e≤e'
 | 0,i,e,e',h1,h2=>by
  rw [Nat.add_zero,h1] at h2
  cases h2
  exact Int.le_refl _
 | k+1,i,e,e',h1,h2=>by
  have hl:=h.len;have h3:=(Zs h2).1;rw [List.length_cons] at h3;obtain ⟨f,hf⟩:∃ f,((0:Int)::cs)[i+k]?=some f:=⟨_,Zg (by rw [List.length_cons];omega)⟩;obtain ⟨a,ha⟩:∃ a,(s::bs)[i+k]?=some a:=⟨_,Zg (by rw [List.length_cons];omega)⟩;obtain ⟨b,hb⟩:∃ b,bs[i+k]?=some b:=⟨_,Zg (by omega)⟩;obtain ⟨d,h4,h5⟩:=h.st (i+k) a b f ha hb hf;have:=Fst.up h h0 k i e f h1 hf;have:=h0 a b d h4;rw [←Nat.add_assoc,List.getElem?_cons_succ,h5] at h2
  cases h2
  omega
theorem kid_row (h:Qrr N l lb c x){a p:Nat}{y:Tri}{d:Int}{r:List Nat} (hy:N.ar[a]?=some y) (hc:Qaa l y.2.1=c) (hr:Qdg (StA N (Qbv lb (Qaa lb y.2.1))) a p d r):Qdg (StA N (Qbv l c)) a p d r:=by
 induction hr with
 | start=>exact .start
 | step h1 h2 ih =>
  have h3:=(Qri h.ok h.hl h.hb h.hn hy hc (Rch.start.step h2 |> fun _=>(h1.rch.step h2)));refine ih.step ?_;obtain ⟨z,w,hz,hw,e1,h5,h6,h7,h8,rfl⟩:=(Qbz h.ok h.hb).1 h2;have m1:=Zm hy;have m2:=Zm hw;refine (Qbz h.ok h.hl).2 ⟨z,w,hz,hw,e1,h5,h6,?_,?_,rfl⟩
  · rw [←Qhg h.ok h.hl h.hb h.hn m1 y.2.1 w.1 rfl (.inr rfl) m2 h7.symm];exact hc
  · rw [←Qhg h.ok h.hl h.hb h.hn m1 y.2.1 w.2.1 rfl (.inl rfl) m2 h8.symm];exact hc
theorem OwR.next (h:Qrr N l lb c x)(hh:Qhc N l c s to v) (hw:Way (StQ N l c to (Qcs N lb)) s to v bs cs) (hm:m<bs.length) (ho:OwR N l lb c s to v bs cs m L) {a b:Nat} {y:Tri} {pr:Int} (ha:(s::bs)[m]?=some a) (hb:bs[m]?=some b) (hy:N.ar[a]?=some y)
 (hpr:Qfi N (Qbv lb (Qaa lb y.2.1)) a b pr) (hA:Opn N (Qbv lb (Qaa lb y.2.1)) a b pr A):OwR N l lb c s to v bs cs (m+1) (L ++A):=by
 have hok:=h.ok;have hpos:∀ p q d,StQ N l c to (Qcs N lb) p q d→0≤d:=(h.okK hh).pos
 -- every arc that is gone over enters a kid of the cell
 have hin:∀ i a,i<bs.length→(s::bs)[i]?=some a→Qcg N l lb c a:=by
  intro i
  induction i with
  | zero=>intro a _ ha;cases ha;exact h.start hh
  | succ i ih =>
   intro a hi ha;rw [List.getElem?_cons_succ] at ha;obtain ⟨a',b',c',d,ha',hb',_,hs,_⟩:=hw.at_ (show i<bs.length by omega)
   rw [ha] at hb'
   cases hb'
   exact (stO_c h (ih a' (by omega) ha') (fun e=>by have:=(hw.to_iff hh.ne ha).1 e;omega) hs).2.2
 have hina:=hin m a hm ha;obtain ⟨y',hy',hcr,hcy⟩:=id hina;rw [hy] at hy'
 cases hy'
 obtain ⟨a',e,ha',hce,hrow⟩:=ho.row hm;rw [ha] at ha'
 cases ha'
 obtain ⟨a',b',e',d,ha',hb',hce',hs,hcs⟩:=hw.at_ hm;rw [ha] at ha'
 cases ha'
 rw [hb] at hb'
 cases hb'
 rw [hce] at hce'
 cases hce'
 obtain ⟨_,pr',⟨y',z,hy',hz,k1,k2,k3,k4⟩,z',hz',hfin,hst⟩:=hs;rw [hy] at hy'
 cases hy'
 rw [hz] at hz'
 cases hz'
 obtain rfl:pr=pr':=(Lst.uniq k4 hpr).symm;obtain ⟨⟨p,g,t,r,hr,hou,hv,hAr⟩,hAn⟩:=id hA;have hrow2:=hrow.trans (kid_row h hy hcy hr)
 -- what is within the kid
 have hwithin:∀ q∈r,∃ w g1 g2,N.ar[q]?=some w∧Qaa lb w.1=Qaa lb y.2.1∧Qaa lb w.2.1=Qaa lb y.2.1∧Rch (StA N (Qbv lb (Qaa lb y.2.1))) a q g1∧Rch (StA N (Qbv lb (Qaa lb y.2.1))) q p g2∧g=g1+g2:=fun q hq=>by
  obtain ⟨_,_,h4⟩:=hr.mem hq;obtain ⟨_,w,_,hw',_,_,_,h7,h8,_⟩:=(Qbz hok h.hb).1 h4;obtain ⟨g1,g2,_,_,r1,r2,hg,_⟩:=hr.cut hq;exact ⟨w,g1,g2,hw',h7,h8,r1.rch,r2.rch,hg⟩
 have stpos:∀ (mk:List Bool) (p q:Nat) (d:Int),StA N mk p q d→0≤d:=fun mk p q d h=>(h.bd hok).1
 have hdle:pr≤d∧∀ pr2:Int,pr2≠1152921504606846976→OpS N l c to b pr2 (pr2+(d-pr)):=by
  rcases hst with ⟨e1,rfl⟩|⟨e1,h2,h3,h4,rfl⟩
  · exact ⟨by omega,fun pr2 hp=>⟨z,hz,hp,.inl ⟨e1,by omega⟩⟩⟩
  · have:=(Qdq (hok.arcs z (Zm hz)).w).resolve_left h4
    exact ⟨by omega,fun pr2 hp=>⟨z,hz,hp,.inr ⟨e1,h2,h3,h4,by omega⟩⟩⟩
 have hnodup:(L ++A).Nodup:=by
  rw [List.nodup_append];refine ⟨ho.nd,hA.2,fun q hq q' hq' heq=>?_⟩;subst heq;rw [hAr] at hq'
  rcases List.mem_append.1 hq' with h3|h3
  · obtain ⟨w,g1,g2,hw1,hw2,hw3,r1,r2,hg⟩:=hwithin q h3
    rcases ho.mem q hq with ⟨i,hi,hbi⟩|⟨i,ai,yi,zi,gi,ei,ei',hi,hai,hyi,hzi,c1,c2,hri,hei,hei',hle⟩
    · obtain ⟨w',hw',g3,_⟩:=hin (i+1) q (by omega) (by rw [List.getElem?_cons_succ];exact hbi)
      rw [hw1] at hw'
      cases hw'
      exact g3 (hw2.trans hw3.symm)
    · rw [hw1] at hzi
      cases hzi
      have hk:Qaa lb yi.2.1=Qaa lb y.2.1:=c1.symm.trans hw2;rw [hk] at hri;obtain ⟨yi',hyi',hcri,_⟩:=hin i ai (by omega) hai;rw [hyi] at hyi'
      cases hyi'
      obtain ⟨v',hv'⟩:=h.hE ai b yi z hyi hz hcri (by rw [hk];exact k2) (by rw [hk];exact k3);rw [hk] at hv';obtain ⟨hle',hne'⟩:=ent_le hok (hri.trans r2) hou hv'
      have hai_ne:ai≠to:=by
       obtain ⟨w',hw',_,hcw⟩:=hin i ai (by omega) hai;exact hh.in_ne hw' hcw
      have:=hw.f.fst i m ai b ei (e+d) (v'+(d-pr)) hi hai hb hei hcs ⟨hai_ne,v',⟨yi,z,hyi,hz,hcri,by rw [hk];exact k2,by rw [hk];exact k3,by rw [hk];exact hv'⟩,hdle.2 v' hne'⟩;have hup:=hw.f.up hpos (m-(i+1)) (i+1) ei' e (by rw [List.getElem?_cons_succ];exact hei') (by rw [show i+1+(m-(i+1))=m by omega];exact hce)
      have hg1:=r1.pos (stpos _);omega
  · rw [List.mem_singleton] at h3
    subst h3
    rcases ho.mem q hq with ⟨i,hi,hbi⟩|⟨i,ai,yi,zi,gi,ei,ei',hi,hai,hyi,hzi,c1,c2,_⟩
    · have:=(List.getElem?_inj (Zs hbi).1 (List.nodup_cons.1 hw.f.nd).2).1 (hbi.trans hb.symm)
      omega
    · rw [hz] at hzi
      cases hzi
      exact k3 (by rw [c2,←c1];exact k2)
 have hcost:e+pr=e+g+t:=by omega
 have htt:0≤t:=(OuA.bd hok hou).1;refine ⟨fun hlt=>?_,fun hlt=>?_,hnodup,fun q hq=>?_⟩
 · have hbt:b≠to:=fun e1=>by have:=(hw.to_iff hh.ne hb).1 e1;omega
   rcases hst with ⟨e1,_⟩|⟨_,h2,h3,h4,rfl⟩
   · exact absurd e1 hbt
   · refine ⟨b,_,by rw [List.getElem?_cons_succ];exact hb,by rw [List.getElem?_cons_succ];exact hcs,?_⟩
     rw [hAr,←List.append_assoc];obtain ⟨w,z',hw',hz',em⟩:=Qbu hou.1;rw [hz] at hz'
     cases hz'
     have hwc:Qaa l w.2.1=(c:Int):=by rw [em];exact h2
     have:=hrow2.step ((Qbz hok h.hl).2 ⟨w,z,hw',hz,em,hou.1,h4,h2,h3,rfl⟩);rw [hou.2] at hcost;rw [show e+(pr+z.2.2)=e+g+(Qaq N p b+z.2.2) by omega]
     exact this
 · have hbt:b=to:=(hw.to_iff hh.ne hb).2 hlt
   subst hbt
   rcases hst with ⟨_,rfl⟩|⟨e1,_⟩
   · refine ⟨⟨p,e+g,t,L ++r,hrow2,hou,?_,by rw [hAr,List.append_assoc]⟩,hnodup⟩
     have:=hw.cost;rw [←hlt,List.getElem?_cons_succ,hcs] at this;have:=Yv this;omega
   · exact absurd rfl e1
 · rcases List.mem_append.1 hq with h3|h3
   · rcases ho.mem q h3 with ⟨i,hi,g1⟩|⟨i,ai,yi,zi,gi,ei,ei',hi,g1⟩
     · exact .inl ⟨i,by omega,g1⟩
     · exact .inr ⟨i,ai,yi,zi,gi,ei,ei',by omega,g1⟩
   · rw [hAr] at h3
     rcases List.mem_append.1 h3 with h4|h4
     · obtain ⟨w,g1,g2,hw1,hw2,hw3,r1,r2,hg⟩:=hwithin q h4
       have hg2:=r2.pos (stpos _);exact .inr ⟨m,a,y,w,g1,e,e+d,by omega,ha,hy,hw1,hw2,hw3,r1,hce,hcs,by have:=hdle.1;omega⟩
     · rw [List.mem_singleton] at h4
       subst h4;exact .inl ⟨m,by omega,hb⟩
theorem OwR.len (hw:Way (StQ N l c to (Qcs N lb)) s to v bs cs) (hok:Qrr N l lb c x) (hh:Qhc N l c s to v) (ho:OwR N l lb c s to v bs cs m L):L.length≤N.ar.length:=by
 refine Qfp _ _ ho.nd (fun q hq=>?_)
 rcases ho.mem q hq with ⟨i,_,g1⟩|⟨i,ai,yi,zi,gi,ei,ei',hi,_,_,hz,_⟩
 · exact hw.lt (fun a b d h=>((hok.okK hh).st a b d h).2.2) q (Zm g1)
 · exact (Zs hz).1
end
attribute [local go_sem ↓] Go.wp_at_zero Go.wp_at_succ
set_option maxHeartbeats 1000000 in
theorem Qkq (o:Nat)(ar:List Tri) (ls:List (List Int)) (w:World) (h:Qfy w o ar ls) (hL:ls.length≤1000000) (hc:∀ l∈ls,l.length≤1000000) :
 Calls prog 58 #[.pointer (some ⟨o,0,none⟩)] w fun e w'=>∃ Q' cq',e=.returned (.agg #[.slice Q' ls.length cq'])∧RdT (msk w' (fun b=>w.heap.size≤b∧b<w'.heap.size)) Q' ls.length ls∧Below w.heap.size w w':=by
 obtain ⟨Q,F,T,G,S,L,m,cq,cf,ct,cg,cs,h⟩:=h;have h0:=h.n0;have hl:ls.length=L:=h.part.1;rw [hl] at hL ⊢;have HT:=Zh h.part;have HC:=Zh hc;have hol:=Qaj h0;simp only at hol;clear h hc hl
 go_enter func58,ntmps58
 go_wp2_with fail
 (refine Qae ?_;intro w1 hw1)
 have hb1:Below w.heap.size w w1:=by rw [hw1];exact Qah
 have hR1:Blk w1 w.heap.size 132 #[.slice none 0 0]:=by rw [hw1];exact Qbh
 have hz1:w.heap.size+1≤w1.heap.size:=by rw [hw1];simp
 clear hw1;with_reducible refine (Qsp Q L cq ls _ (HT.out.below hb1) hL HC.out).mono ?_
 rintro e w2 ⟨Q',cq',rfl,hrw,_,_,hb2⟩;have hR2:=hR1.below hb2 hR1.lt;have r0:=hR2.cell 0;simp only [Yo,Yn] at r0;have f0:=hR2.frozen 0;have hb2':=Zb hb1 hb2
 have HW:=Zh (show RdT (msk (w2.setCell ⟨w.heap.size,0,none⟩ (.slice Q' L cq')) (fun b=>w.heap.size≤b∧b<(w2.setCell ⟨w.heap.size,0,none⟩ (.slice Q' L cq')).heap.size)) Q' L ls from
  hrw.le ((Qbc.set w2 w.heap.size 0 (.slice Q' L cq') (by omega)).msk.trans (Qbk (fun b hb=>⟨by omega,by have:=hb.2;simpa [World.setCell] using this⟩))))
 have hbe:Below w.heap.size w (w2.setCell ⟨w.heap.size,0,none⟩ (.slice Q' L cq')):=hb2'.setCell (Zn _) _;clear hrw hb2 hR1 hb1 h0
 go_wp2_with fail
 refine bodyPost_ret (v:=.agg #[.slice Q' L cq']) (by simp [results,results58,go_sem,r0]) rfl ?_;exact ⟨_,_,rfl,HW.out,hbe⟩
def inR (n:Nat)(v:Int):Prop:=0≤v∧v<(n:Int)
noncomputable def lvI (n:Nat) (ls:List (List Int)) (v a b:Int):Int:=by classical exact if inR n v∧inR n a∧inR n b then (Qgt ls v [a,b]:Int) else 0
theorem lvTo_yes {ls:List (List Int)} {v:Int} {av:List Int} {j:Nat} (h:Qed ls j v av):Qsz ls v av (j+1)=j+1:=by unfold Qsz;rw [if_pos h]
theorem Qwd {ls:List (List Int)} {v:Int} {av:List Int} {j:Nat} (h:¬Qed ls j v av):Qsz ls v av (j+1)=Qsz ls v av j:=by
 rw [show Qsz ls v av (j+1)=(by classical exact if Qed ls j v av then j+1 else Qsz ls v av j) from rfl]
 rw [if_neg h]
set_option maxRecDepth 20000 in
set_option maxHeartbeats 2000000 in
theorem Qtj (Q:Option Addr)(L cq n:Nat) (ls:List (List Int)) (v a b:Int) (w:World) (h:RdT w Q L ls) (hP:Qaw n ls) :
 Calls prog 80 #[.slice Q L cq,.int .i64 v,.int .i64 a,.int .i64 b] w fun e w'=>e=.returned (.int .i64 (lvI n ls v a b))∧Below w.heap.size w w':=by
 have HT:=Zh h;have HP:=Zh hP;have hL6:L≤6:=by rw [←h.1];exact hP.l6
 have HL1:=Zh (show 1≤L by rw [←h.1];exact hP.l1)
 have HLL:=Zh h.1;have hix0:∀ W,(Instr.index 242 (.agg #[.int .i64 v,.int .i64 a,.int .i64 b]) (.int .i64 0)).run prog W=.ok (.int .i64 v) W:=fun W=>by rfl
 have hix1:∀ W,(Instr.index 242 (.agg #[.int .i64 v,.int .i64 a,.int .i64 b]) (.int .i64 1)).run prog W=.ok (.int .i64 a) W:=fun W=>by rfl
 have hix2:∀ W,(Instr.index 242 (.agg #[.int .i64 v,.int .i64 a,.int .i64 b]) (.int .i64 2)).run prog W=.ok (.int .i64 b) W:=fun W=>by rfl
 clear h hP
 go_enter func80,ntmps80
 go_wp2_with fail
 go_loopw [9] (fun q W=>∃ j:Nat,j≤L∧q=.int .i64 j∧Below w.heap.size w W∧Qgt ls v [a,b]=Qsz ls v [a,b] j∧(j<L→inR n v∧inR n a∧inR n b)) (fun q _=>(intOf q).toNat)
 case atStart=>exact ⟨L,Zn _,rfl,Zr _ _,by unfold Qgt;rw [HLL.out],fun h=>absurd h (Nat.lt_irrefl _)⟩
 case round =>
  obtain ⟨J,hj,rfl,hb,hlv,hin⟩:=hrel;have HB:=Zh hb;have HLV:=Zh hlv;have HIN:=Zh hin;clear hlv hin
  by_cases h0:J=0
  · subst h0
    have e0:¬((1:Int)≤((0:Nat):Int)):=by omega
    clear hb
    have HZ:=Zh (show lvI n ls v a b=0 by
     unfold lvI;rw [if_pos (HIN.out (by have:=HL1.out;omega)),HLV.out]
     rfl)
    exact Kbb
  · obtain ⟨j,hJ⟩:∃ j,J=j+1:=⟨J-1,by omega⟩
    have e0:(1:Int)≤(J:Int):=by omega
    have HJ:=Zh hJ;obtain ⟨qb,qo,A1,n1,c1,l,rfl,hl,k0,k1,_,_⟩:=(HT.out.below hb).at_ (i:=j) (by omega);have hlo:=HP.out.lvl l (Zm hl);obtain rfl:n=n1:=by rw [←k1.1];exact hlo.len.symm
    have e1:(J:Int)-1=(j:Int):=by omega
    have e2:(0:Int)≤(j:Int):=by omega
    have e3:(j:Int)<(L:Int):=by omega
    have wl:IntKind.i64.wrap (j:Int)=(j:Int):=IntWalk.i64_in _ (by omega);have HL:=Zh hl;have HLO:=Zh hlo;have HR:=Zh k1;clear hl hlo k1 hb hJ h0
    go_wp2_with fail
    obtain ⟨wo,hwo⟩:∃ wo,wo=wr:=⟨_,rfl⟩;subst hwo
    go_loopw [28] (fun q W=>∃ i:Nat,i≤3∧q=.int .i64 i∧W=wo∧(0<i→inR n v)∧(1<i→inR n a)∧(2<i→inR n b)) (fun q _=>3-(intOf q).toNat)
    case atStart=>exact ⟨0,by omega,rfl,rfl,fun h=>by omega,fun h=>by omega,fun h=>by omega⟩
    case round =>
     obtain ⟨i,hi,rfl,rfl,h1,h2,h3⟩:=hrel;have H1:=Zh h1;have H2:=Zh h2;have H3:=Zh h3;clear h1 h2 h3
     rcases (by omega:i=0∨i=1∨i=2∨i=3) with rfl|rfl|rfl|rfl
     · skip
       by_cases hx:inR n v
       · have hx0:0≤v:=hx.1
         have hx1:v<(n:Int):=hx.2
         have HX:=Zh hx;clear hx
         go_wp2_with fail
         go_roundw
         case rel=>first|exact ⟨0+1,by omega,by go_num,trivial,(fun _=>HX.out),(fun h=>by omega),(fun h=>by omega)⟩|exact ⟨0+1,by omega,by go_num,rfl,(fun _=>HX.out),(fun h=>by omega),(fun h=>by omega)⟩
         case measure=>simp [intOf]
       · have HZ:=Zh (show lvI n ls v a b=0 by unfold lvI;rw [if_neg (fun h=>hx h.1)])
         by_cases hx0:v<0
         · clear hx
           exact Kbb
         · have hx1:(n:Int)≤v:=by unfold inR at hx;omega
           have hx2:0≤v:=by omega
           clear hx
           exact Kbb
     · skip
       by_cases hx:inR n a
       · have hx0:0≤a:=hx.1
         have hx1:a<(n:Int):=hx.2
         have HX:=Zh hx;clear hx
         go_wp2_with fail
         go_roundw
         case rel=>first|exact ⟨1+1,by omega,by go_num,trivial,(fun _=>H1.out (by omega)),(fun _=>HX.out),(fun h=>by omega)⟩|exact ⟨1+1,by omega,by go_num,rfl,(fun _=>H1.out (by omega)),(fun _=>HX.out),(fun h=>by omega)⟩
         case measure=>simp [intOf]
       · have HZ:=Zh (show lvI n ls v a b=0 by unfold lvI;rw [if_neg (fun h=>hx h.2.1)])
         by_cases hx0:a<0
         · clear hx
           exact Kbb
         · have hx1:(n:Int)≤a:=by unfold inR at hx;omega
           have hx2:0≤a:=by omega
           clear hx
           exact Kbb
     · skip
       by_cases hx:inR n b
       · have hx0:0≤b:=hx.1
         have hx1:b<(n:Int):=hx.2
         have HX:=Zh hx;clear hx
         go_wp2_with fail
         go_roundw
         case rel=>first|exact ⟨2+1,by omega,by go_num,trivial,(fun _=>H1.out (by omega)),(fun _=>H2.out (by omega)),(fun _=>HX.out)⟩|exact ⟨2+1,by omega,by go_num,rfl,(fun _=>H1.out (by omega)),(fun _=>H2.out (by omega)),(fun _=>HX.out)⟩
         case measure=>simp [intOf]
       · have HZ:=Zh (show lvI n ls v a b=0 by unfold lvI;rw [if_neg (fun h=>hx h.2.2)])
         by_cases hx0:b<0
         · clear hx
           exact Kbb
         · have hx1:(n:Int)≤b:=by unfold inR at hx;omega
           have hx2:0≤b:=by omega
           clear hx
           exact Kbb
     · have hv:=H1.out (by omega)
       have ha:=H2.out (by omega);have hb:=H3.out (by omega);have HIR:=Zh (And.intro hv (And.intro ha hb));unfold inR at hv ha hb;obtain ⟨vn,rfl⟩:∃ vn:Nat,v=(vn:Int):=⟨v.toNat,by omega⟩;obtain ⟨an,rfl⟩:∃ vn:Nat,a=(vn:Int):=⟨a.toNat,by omega⟩;obtain ⟨bn,rfl⟩:∃ vn:Nat,b=(vn:Int):=⟨b.toNat,by omega⟩;obtain ⟨lb,lo,zv,rfl,hzv,cv⟩:=HR.out.at_ (i:=vn) (by omega);obtain ⟨_,_,za,ea,hza,ca⟩:=HR.out.at_ (i:=an) (by omega)
       cases ea
       obtain ⟨_,_,zb,eb,hzb,cb⟩:=HR.out.at_ (i:=bn) (by omega)
       cases eb
       have p1:(0:Int)≤(vn:Int):=by omega
       have p2:(0:Int)≤(an:Int):=by omega
       have p3:(0:Int)≤(bn:Int):=by omega
       have p4:(vn:Int)<(n:Int):=by omega
       have p5:(an:Int)<(n:Int):=by omega
       have p6:(bn:Int)<(n:Int):=by omega
       have HAP:=Zh (show Qed ls j (vn:Int) [(an:Int),(bn:Int)]↔zv≠za∧zv≠zb from by
        constructor
        · rintro ⟨l',hl',g⟩
          rw [HL.out] at hl'
          cases hl'
          have g1:=g _ (List.mem_cons_self ..);have g2:=g _ (List.mem_cons_of_mem _ (List.mem_cons_self ..));rw [Qbb hzv,Qbb hza] at g1;rw [Qbb hzv,Qbb hzb] at g2;exact ⟨g1,g2⟩
        · rintro ⟨g1,g2⟩
          refine ⟨l,HL.out,fun x hx=>?_⟩;rw [List.mem_cons,List.mem_cons] at hx
          rcases hx with rfl|rfl|hx
          · rw [Qbb hzv,Qbb hza];exact g1
          · rw [Qbb hzv,Qbb hzb];exact g2
          · cases hx)
       clear hv ha hb hzv hza hzb
       go_wp2_with fail
       refine wp_region_held_drew (S:=fun V=>V=wr.drew) (by kernel_rfl) rfl (fun _=>?_)
       by_cases h1:zv=za
       · have e4:(zv != za)=false:=by simp [h1]
         have HNA:=Zh (show ¬Qed ls j (vn:Int) [(an:Int),(bn:Int)] from fun h=>(HAP.out.1 h).1 h1)
         clear h1;refine tz 0 40 ?_;refine tz 1 41 ?_;refine tz 2 42 ?_;refine tz 3 43 ?_;refine tz 4 44 ?_;refine tz 5 45 ?_;refine tz 6 46 ?_;refine tz 7 47 ?_;refine tz 8 48 ?_;refine tz 9 49 ?_;refine tw 10 50 ?_;refine tw 11 51 ?_;refine tw 12 52 ?_;refine tw 13 53 ?_;refine tw 14 54 ?_;refine tw 15 55 ?_;refine tw 16 56 ?_;refine tw 17 57 ?_;refine tw 18 58 ?_;refine tz 19 59 ?_;refine Zd ?_;have HLN:=Zh (Qwd HNA.out);have HB2:=Zh (HB.out.trans ((Zr _ _).drew.mono HB.out.size))
         exact Kbs
       · have e4:(zv != za)=true:=by simp [h1]
         by_cases h2:zv=zb
         · have e5:(zv != zb)=false:=by simp [h2]
           have HNA:=Zh (show ¬Qed ls j (vn:Int) [(an:Int),(bn:Int)] from fun h=>(HAP.out.1 h).2 h2)
           clear h1 h2;refine tz 0 40 ?_;refine tz 1 41 ?_;refine tz 2 42 ?_;refine tz 3 43 ?_;refine tz 4 44 ?_;refine tz 5 45 ?_;refine tz 6 46 ?_;refine tz 7 47 ?_;refine tz 8 48 ?_;refine tz 9 49 ?_;refine tz 10 50 ?_;refine tz 11 51 ?_;refine tz 12 52 ?_;refine tz 13 53 ?_;refine tz 14 54 ?_;refine tz 15 55 ?_;refine tz 16 56 ?_;refine tz 17 57 ?_;refine tz 18 58 ?_;refine tz 19 59 ?_;refine Zd ?_;have HLN:=Zh (Qwd HNA.out);have HB2:=Zh (HB.out.trans ((Zr _ _).drew.mono HB.out.size))
           exact Kbs
         · have e5:(zv != zb)=true:=by simp [h2]
           have HYA:=Zh (lvTo_yes (HAP.out.2 ⟨h1,h2⟩));clear h1 h2;refine tz 0 40 ?_;refine tz 1 41 ?_;refine tz 2 42 ?_;refine tz 3 43 ?_;refine tz 4 44 ?_;refine tz 5 45 ?_;refine tz 6 46 ?_;refine tz 7 47 ?_;refine tz 8 48 ?_;refine tz 9 49 ?_;refine tz 10 50 ?_;refine tz 11 51 ?_;refine tz 12 52 ?_;refine tz 13 53 ?_;refine tz 14 54 ?_;refine tz 15 55 ?_;refine tz 16 56 ?_;refine tz 17 57 ?_;refine tz 18 58 ?_;refine tz 19 59 ?_;refine Zd ?_;have HB2:=Zh (HB.out.trans ((Zr _ _).drew.mono HB.out.size));have HZ:=Zh (show lvI n ls (vn:Int) (an:Int) (bn:Int)=(J:Int) by unfold lvI;rw [if_pos HIR.out,HLV.out,HJ.out,HYA.out])
           go_wp2_with fail
           go_ret
           rw [HZ.out];exact ⟨rfl,HB2.out⟩
section
variable {N:Qam} {mk:List Bool} {s t:Nat} {d:List Int} {best:Int}
end
theorem Qhm (Q:Option Addr)(L cq i:Nat)(w:World)(hi:i<L) :
 Calls prog 67 #[.agg #[.slice Q L cq],.int .i64 ((i:Int)+1)] w fun r w'=>r=.returned (.bool true)∧Below w.heap.size w w':=by
 have i1:(1:Int)≤(i:Int)+1:=by omega
 have i2:(i:Int)+1≤(L:Int):=by omega
 go_enter func67,ntmps67
 exact Kbn
set_option maxHeartbeats 2000000 in
theorem Qka (A B C Q:Option Addr)(n m k c d e L cq li:Nat)(N:Qam) (ls:List (List Int)) (l:List Int) (w:World) (h:Qce w A B C n m k N) (hok:Qap N) (hq:RdT w Q L ls) (hl:ls[li]?=some l) (hll:l.length=N.vs.length) (hL:L≤1000000) :
 Calls prog 112 #[.agg #[.slice A n c,.slice B m d,.slice C k e],.agg #[.slice Q L cq],.int .i64 ((li:Int)+1)] w fun r w'=>∃ A' n' c',r=.returned (.slice A' n' c')∧RdI w' A' n' (Qas N.ar l)∧(∀ b,Qab A'=some b→w.heap.size≤b)∧Below w.heap.size w w':=by
 have HH:=Zh h;have HM:=Zh h.2.1.1;have hm:m≤16384:=by rw [←h.2.1.1];exact hok.la
 have hliL:li<L:=by rw [←hq.1];exact (Zs hl).1
 obtain ⟨qb,qo,LA,ln,lc,l',rfl,hl',q1,q2,q3,q4⟩:=hq.at_ hliL;rw [hl] at hl'
 cases hl'
 have hln:ln=N.vs.length:=by rw [←q2.1];exact hll
 have i5:(li:Int)+1-1=(li:Int):=by omega
 have i6:(li:Int)<(L:Int):=by omega
 have i7:(0:Int)≤(li:Int):=by omega
 have wl:IntKind.i64.wrap (li:Int)=(li:Int):=IntWalk.i64_in _ (by omega);have HQ:=Zh q2;have HQ1:=Zh q1;have HLN:=Zh hln;have hlv:=hok.lv;have HAR:=Zh hok.arcs;clear h hq hl q1 q2 q3 q4 hll hln hok
 go_enter func112,ntmps112
 go_wp2_with fail
 (refine Qai ?_;intro w1 hw1)
 have hb1:Below w.heap.size w w1:=by rw [hw1];exact Qah
 have hX:Blk w1 w.heap.size 26 #[.slice A n c,.slice B m d,.slice C k e]:=by
  rw [hw1];refine Blk.alloc ?_ _;exact Blk.new _ _ _
 have hY:Blk w1 (w.heap.size+1) 29 #[.slice (some ⟨qb,qo,none⟩) L cq]:=by
  rw [hw1];refine Blk.new' _ _ _ ?_;simp
 clear hw1
 go_loopw [7,8] (fun z q V=>∃ (i:Nat) (A':Option Addr) (c':Nat),i≤m∧q=.int .i64 i∧z=.slice A' (Qhx (Qcm l) (N.ar.take i)).length c'∧Own V w1.heap.size 3 1 A' (Qhx (Qcm l) (N.ar.take i)).length c' (Qag (Qhx (Qcm l) (N.ar.take i)))∧Below w1.heap.size w1 V) (fun _ q _=>m-(intOf q).toNat)
 case atStart=>exact ⟨0,none,0,Nat.zero_le _,rfl,rfl,Own.nil _ _ _ _,Zr _ _⟩
 case round =>
  obtain ⟨i,A',c',hi,rfl,rfl,hown,hbl⟩:=hrel;have hXr:=hX.below hbl hX.lt;have hYr:=hY.below hbl hY.lt;have x1:=hXr.cell 1;have xl:=hXr.lt;have y0:=hYr.cell 0;have yl:=hYr.lt;simp only [Yo,Yn,List.getElem?_cons_succ] at x1 y0;have hbd:(Qhx (Qcm l) (N.ar.take i)).length≤i:=Yx (Qgl _ _) (by rw [Yw];omega);have HOW:=Zh hown;obtain ⟨no,hno⟩:∃ no,no=(Qhx (Qcm l) (N.ar.take i)).length:=⟨_,rfl⟩;rw [←hno] at hbd ⊢;have HNO:=Zh hno;clear hown hno
  by_cases hlt:i<m
  rotate_left
  · obtain rfl:i=m:=by omega
    have i1:¬((i:Int)<(i:Int)):=by omega
    go_wp2_with fail
    go_ret
    refine ⟨A',no,⟨c',rfl⟩,?_,fun b hb=>by have:=(HOW.out.lt b hb).1;have:=hb1.size;omega,Zb hb1 hbl⟩;have:=HOW.out.rds.rdI;rw [Ye (by rw [HM.out];exact Zn _)] at this;rw [HNO.out,Ye (by rw [HM.out];exact Zn _)];exact this
  · have i1:(i:Int)<(m:Int):=by omega
    have i2:(0:Int)≤(i:Int):=by omega
    go_wp2_with fail
    with_reducible refine (Qhm _ L cq li wr hliL).mono ?_
    rintro r w2 ⟨rfl,hb2⟩;have hbl2:=Zb hbl hb2;have HOW2:=Zh (HOW.out.below hb2);have hbw:=Zb hb1 hbl2;clear x1 xl y0 yl hXr hYr hb2 hbl HOW;obtain ⟨y,hy⟩:∃ y,N.ar[i]?=some y:=⟨_,Zg (by rw [HM.out];exact hlt)⟩;obtain ⟨b,o,rfl,c0,c1,c2⟩:=(HH.out.below hbw).2.1.2 i y hy;have ho:=HAR.out y (Zm hy);have f0:=ho.f0;have f1:=ho.f1;have g0:=ho.g0;have g1:=ho.g1;obtain ⟨u,hu⟩:∃ u:Nat,y.1=(u:Int):=⟨y.1.toNat,by omega⟩;obtain ⟨v,hv⟩:∃ v:Nat,y.2.1=(v:Int):=⟨y.2.1.toNat,by omega⟩;rw [hu] at c0;rw [hv] at c1;have hun:u<ln:=by rw [HLN.out];omega
    have hvn:v<ln:=by rw [HLN.out];omega
    obtain ⟨b1,o1,z1,rfl,hz1,d1⟩:=(HQ.out.below hbw).at_ hun;obtain ⟨b1',o1',z2,e',hz2,d2⟩:=(HQ.out.below hbw).at_ hvn
    cases e'
    have hqc:=Zc hbw (Zn _) HQ1.out;have hXr:=hX.below hbl2 hX.lt;have hYr:=hY.below hbl2 hY.lt
    have hcr:Qcm l y=(z1 != z2):=by
     unfold Qcm;rw [hu,hv,Qbb hz1,Qbb hz2]
    have j1:(u:Int)<(ln:Int):=by omega
    have j2:(v:Int)<(ln:Int):=by omega
    have j3:(0:Int)≤(u:Int):=by omega
    have j4:(0:Int)≤(v:Int):=by omega
    have HY:=Zh hy;have HCR:=Zh hcr
    have HSX:=Zh (show ∀ V,Below w2.heap.size w2 V→V.cell? ⟨w.heap.size,1,none⟩=some (.slice (some ⟨b,o,none⟩) m d)∧V.cell? ⟨w.heap.size+1,0,none⟩=some (.slice (some ⟨qb,qo,none⟩) L cq)∧V.cell? ⟨qb,qo+li,none⟩=some (.slice (some ⟨b1,o1,none⟩) ln lc)∧V.cell? ⟨b,o+i*3,none⟩=some (.int .i64 u)∧V.cell? ⟨b,o+i*3+1,none⟩=some (.int .i64 v)∧V.cell? ⟨b1,o1+u,none⟩=some (.int .i64 z1)∧V.cell? ⟨b1,o1+v,none⟩=some (.int .i64 z2) from
     fun V hV=>⟨by rw [(hXr.below hV hXr.lt).cell];rfl,by rw [(hYr.below hV hYr.lt).cell];rfl,Zc hV (Zn _) hqc,Zc hV (Zn _) c0,Zc hV (Zn _) c1,Zc hV (Zn _) d1,Zc hV (Zn _) d2⟩)
    clear hy hcr c0 c1 c2 d1 d2 hqc hXr hYr hu hv hz1 hz2 f0 f1 g0 g1 ho
    go_wp2_with fail
    refine wp_region_held_drew (S:=fun V=>Below w2.heap.size w2 V) (by kernel_rfl) (Zr _ _).drew (fun _=>?_);refine tz 0 21 ?_;refine tz 1 22 ?_;refine tz 2 23 ?_;refine tz 3 24 ?_;refine tz 4 25 ?_;refine tz 5 26 ?_;refine tz 6 27 ?_;refine tz 7 28 ?_;refine tz 8 29 ?_;refine tz 9 30 ?_;refine tz 10 31 ?_;refine tz 11 32 ?_;refine tz 12 33 ?_;refine tz 13 34 ?_;refine tz 14 35 ?_;refine tz 15 36 ?_;refine tz 16 37 ?_;refine tz 17 38 ?_;refine tz 18 39 ?_;refine tz 19 40 ?_;refine tz 20 41 ?_;refine tz 21 42 ?_;refine tz 22 43 ?_;refine tz 23 44 ?_;refine tz 24 45 ?_;refine tz 25 46 ?_;refine tz 26 47 ?_;refine tz 27 48 ?_;refine tz 28 49 ?_;refine Zd ?_;clear HSX
    by_cases hv:z1=z2
    · have e1:(z1 != z2)=false:=by simpa using hv
      have HN1:=Zh (show Qhx (Qcm l) (N.ar.take (i+1))=Qhx (Qcm l) (N.ar.take i) by rw [Qkf HY.out,HCR.out,e1];simp)
      have HE:=Zh hv;clear hv
      go_wp2_with fail
      go_roundw
      case rel=>exact ⟨i+1,A',c',by omega,by go_num,by rw [HN1.out,HNO.out],by rw [HN1.out];exact HOW2.out.drew,hbl2.drew⟩
      case measure=>simp [intOf];omega
    · have e1:(z1 != z2)=true:=by simpa using hv
      obtain ⟨W1,hW1⟩:∃ W1,W1=w2.drew:=⟨_,rfl⟩;have hbW1:Below w1.heap.size w1 W1:=by rw [hW1];exact hbl2.drew
      have hown2:Own W1 w1.heap.size 3 1 A' no c' (Qag (Qhx (Qcm l) (N.ar.take i))):=by
       rw [hW1];have:=HOW2.out;rw [←HNO.out] at this;exact this.drew
      rw [←hW1];obtain ⟨W2,hW2⟩:∃ W2,W2=W1.alloc (.cells #[.int .i64 i] 3):=⟨_,rfl⟩;have hown3:Own W2 w1.heap.size 3 1 A' no c' (Qag (Qhx (Qcm l) (N.ar.take i))):=by rw [hW2];exact hown2.alloc _
      have hrd:Rds W2 1 (some ⟨W1.heap.size,0,none⟩) 1 (Qag [(i:Int)]):=by rw [hW2];exact (Blk.new W1 3 #[.int .i64 i]).rds rfl
      have hba:Below w1.heap.size w1 W2:=by rw [hW2];exact Below.alloc hbW1 hbW1.size _
      have hsz:w1.heap.size≤W2.heap.size:=hba.size;have HW2:=Zh hW2;have HE:=Zh hv;clear hW2 hown2 hv hW1 hbW1
      go_wp2_with (at_builtin;rw [←HW2.out];with_reducible refine Qal rfl (.tmp 50) (.tmp 52) 61 rfl 3 _ 1 8 Qbm underlying61 rfl (by omega) rfl rfl hown3 hrd (Qao _) (by omega) (by omega) hsz ?_)
      intro A3 c3 w8 ho8 hg8 _;have hb8:Below w1.heap.size w1 w8:=Zo hba hg8 hown3 hsz;have HN0:=Zh (show Qhx (Qcm l) (N.ar.take (i+1))=Qhx (Qcm l) (N.ar.take i) ++[(i:Int)] by rw [Qkf HY.out,HCR.out,e1,if_pos rfl])
      have HO8:=Zh (show Own w8 w1.heap.size 3 1 A3 (no+1) c3 (Qag (Qhx (Qcm l) (N.ar.take (i+1)))) by rw [HN0.out,Qbj];exact ho8)
      have HN1:=Zh (show (Qhx (Qcm l) (N.ar.take (i+1))).length=no+1 by rw [HN0.out,Yp,←HNO.out];rfl)
      exact Kat
set_option maxHeartbeats 1000000 in
theorem Qqn (Q:Option Addr)(L cq li n:Nat)(c:Int) (ls:List (List Int)) (l l0:List Int) (w:World) (h:RdT w Q L ls) (hl:ls[li]?=some l) (hL:L≤1000000) (h0:ls[0]?=some l0) (hn:l.length=n) (hn0:l0.length=n) (hn4:n≤1000000) :
 Calls prog 72 #[.agg #[.slice Q L cq],.int .i64 ((li:Int)+1),.int .i64 c] w fun e w'=>∃ b,e=.returned (.slice (some ⟨b,0,none⟩) n n)∧Blk w' b 4 (Qff (Qbv l c))∧w.heap.size≤b∧Below w.heap.size w w':=by
 have hL0:0<L:=by rw [←h.1];exact (Zs h0).1
 have hliL:li<L:=by rw [←h.1];exact (Zs hl).1
 obtain ⟨qb,qo,A0,n0,c0,l0',hQ,hl0,g0,g1,g2,g3⟩:=h.at_ hL0;rw [h0] at hl0
 cases hl0
 obtain rfl:n=n0:=by rw [←hn0];exact g1.1
 obtain ⟨qb',qo',A1,n1,c1,l1',e',hl1,k0,k1,k2,k3⟩:=h.at_ hliL;subst hQ
 cases e'
 rw [hl] at hl1
 cases hl1
 obtain rfl:n=n1:=by rw [←hn];exact k1.1
 have HG0:=Zh (show ∀ V,Below w.heap.size w V→V.cell? ⟨qb,qo,none⟩=some (.slice A0 n c0) from fun V hV=>Zc hV (Zn _) g0)
 have HK0:=Zh (show ∀ V,Below w.heap.size w V→V.cell? ⟨qb,qo+li,none⟩=some (.slice A1 n c1) from fun V hV=>Zc hV (Zn _) k0)
 have HK1:=Zh k1;have HN:=Zh hn;have hmk:=Qkv n (by omega);have e1:((L:Int) == 0)=false:=by simp;omega
 have i1:(0:Int)<(L:Int):=by omega
 have i2:(li:Int)<(L:Int):=by omega
 have i3:(0:Int)≤(li:Int):=by omega
 have i4:(li:Int)+1-1=(li:Int):=by omega
 have wl:IntKind.i64.wrap (li:Int)=(li:Int):=IntWalk.i64_in _ (by omega);have zq:=Qaj g0;simp only at zq;have z0:(w.alloc (.cells #[.slice (some ⟨qb,qo,none⟩) L cq] 29)).cell? ⟨qb,qo,none⟩=some (.slice A0 n c0):=HG0.out _ ((Zr _ _).alloc (Zn _) _);clear h hl h0 hn hn0 g0 g1 g2 g3 k0 k1 k2 k3
 go_enter func72,ntmps72
 go_wp2_with fail
 (refine Qai ?_;intro w3 hw3)
 have hb3:Below w.heap.size w w3:=by rw [hw3];exact Qah
 have hX3:Blk w3 w.heap.size 29 #[.slice (some ⟨qb,qo,none⟩) L cq]:=by rw [hw3];exact (Blk.new _ _ _).alloc _
 have hd3:Blk w3 (w.heap.size+1) 4 (Qff ((Qbv l c).take 0 ++List.replicate (n-0) false)):=by
  rw [hw3,Nat.sub_zero,List.take_zero,List.nil_append,←Qia];refine Blk.new' _ _ _ ?_;simp
 clear hw3 z0 zq
 go_loopw [8] (fun q W=>∃ i:Nat,q=.int .i64 i∧i≤n∧Below w.heap.size w W∧Blk W w.heap.size 29 #[.slice (some ⟨qb,qo,none⟩) L cq]∧Blk W (w.heap.size+1) 4 (Qff ((Qbv l c).take i ++List.replicate (n-i) false))) (fun q _=>n-(intOf q).toNat)
 case atStart=>exact ⟨0,by go_num,Nat.zero_le _,hb3,hX3,hd3⟩
 case round =>
  clear hb3 hd3 hX3;obtain ⟨i,rfl,hin,hb,hX,hd⟩:=hrel
  by_cases hlt:i<n
  · have x0:wr.cell? ⟨w.heap.size,0,none⟩=some (.slice (some ⟨qb,qo,none⟩) L cq):=Zq hX
    have hi2:(i:Int)<(n:Int):=by omega
    go_wp2_with fail
    with_reducible refine (Qhm _ L cq li wr hliL).mono ?_
    rintro r w2 ⟨rfl,hb2⟩;have hbw2:=Zb hb hb2;obtain ⟨b,o,z,rfl,hz,hc⟩:=(HK1.out.below hbw2).at_ hlt;have hd2:=hd.below hb2 hd.lt;have hX2:=hX.below hb2 hX.lt;have f0:=hd2.frozen i;have hd':=hd2.setB (i:=i) (x:=z == c) (Qww hz HN.out);have hb':Below w.heap.size w (w2.setCell ⟨w.heap.size+1,i,none⟩ (.bool (z == c))):=hbw2.setCell (by simp) _;have hX':Blk (w2.setCell ⟨w.heap.size+1,i,none⟩ (.bool (z == c))) w.heap.size 29 #[.slice (some ⟨qb,qo,none⟩) L cq]:=hX2.far_ (by omega) _;have hi1:(0:Int)≤(i:Int):=by omega
    have HD:=Zh hd';have HB:=Zh hb';have HX:=Zh hX';obtain ⟨v0,hv0⟩:∃ v0,((Qbv l c).take i ++List.replicate (n-i) false)[i]?=some v0:=⟨_,Zg (by rw [Yp,Yw,Qjm,HN.out,List.length_replicate];omega)⟩;have c0':=hd2.cellB hv0;have x2:w2.cell? ⟨w.heap.size,0,none⟩=some (.slice (some ⟨qb,qo,none⟩) L cq):=Zq hX2;have x3:=HK0.out w2 hbw2;clear hv0;clear hd hb hd' hb' hz hd2 hX2 hX hX' x0 hb2 hbw2
    go_wp2_with fail
    go_roundw
    case rel=>exact ⟨i+1,by go_num,by omega,HB.out,HX.out,HD.out⟩
    case measure=>simp [intOf];omega
  · obtain rfl:i=n:=by omega
    rw [Yy,Ye (by rw [Qjm,HN.out];exact Zn _),List.replicate_zero,List.append_nil] at hd
    go_wp2_with fail
    go_ret
    exact ⟨_,rfl,hd,by omega,hb⟩
def Qex (x y:Int):Int:=if x+y > 1152921504606846976 then 1152921504606846976 else x+y
theorem Qig (x:Int)(w:World)(h0:0≤x)(h1:x≤1152921504606846976):Calls prog 129 #[.int .i64 x] w fun e w'=>e=.returned (.int .i64 x)∧w=w':=by
 have i1:¬(x<0):=by omega
 have i2:¬(x > 1152921504606846976):=by omega
 go_enter func129,ntmps129
 exact Kcr
theorem Qrw (x:Int)(w:World)(h1:x > 1152921504606846976):Calls prog 129 #[.int .i64 x] w fun e w'=>e=.returned (.int .i64 1152921504606846976)∧w=w':=by
 have i1:¬(x<0):=by omega
 go_enter func129,ntmps129
 exact Kcr
theorem Qge (x y:Int)(w:World)(hx:0≤x∧x≤1152921504606846976)(hy:0≤y∧y≤1152921504606846976):Calls prog 74 #[.int .i64 x,.int .i64 y] w fun e w'=>e=.returned (.int .i64 (Qex x y))∧w=w':=by
 have HX:=Zh (Qig x w hx.1 hx.2);have HY:=Zh (Qig y w hy.1 hy.2)
 have HZ:=Zh (show Calls prog 129 #[.int .i64 (x+y)] w fun e w'=>e=.returned (.int .i64 (Qex x y))∧w=w' by
  unfold Qex
  by_cases h:x+y > 1152921504606846976
  · rw [if_pos h];exact Qrw _ w h
  · rw [if_neg h];exact Qig _ w (by omega) (by omega))
 have e1:IntKind.i64.wrap (x+y)=x+y:=IntWalk.i64_in _ (by omega);clear hx hy
 go_enter func74,ntmps74
 exact Kbd
theorem Qyl {x y:Int}(hx:0≤x)(hy:0≤y):0≤Qex x y∧Qex x y≤1152921504606846976∧Qex x y≤x+y∧(Qex x y<1152921504606846976→Qex x y=x+y):=by
 unfold Qex
 split <;> omega
section
variable {N:Qam} {mk:List Bool} {s t:Nat} {d:List Int} {best:Int}
end
end Go.Proofs.YtdheeddnkdhfeaaGreatDoor
