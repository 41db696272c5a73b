/- Parts of the proof: FsA, MdS, MdT, MdU, MdW, Err. -/
import Derived.Test.YthoagdpakddbdaaGreatDoorK1
import Derived.Test.YthoagdpakddbdaaGreatDoorK13
import Derived.Test.YthoagdpakddbdaaGreatDoorK14
import Derived.Test.YthoagdpakddbdaaGreatDoorK19
import Derived.Test.YthoagdpakddbdaaGreatDoorK20
import Derived.LaidEql
import Derived.Stop.Asserts
import Derived.RowKitTokens
import Derived.Lib.IfaceEq
import Derived.Stop.IfaceNil
namespace Go.Proofs.YthoagdpakddbdaaGreatDoor
open Go.RowKit Go.Proofs.Tryz
theorem Qdu.getD {l m:List Tri}(h:Qdu l m)(i:Nat):(l.getD i (0,0,0)).1=(m.getD i (0,0,0)).1∧(l.getD i (0,0,0)).2.1=(m.getD i (0,0,0)).2.1:=by
 simp only [List.getD_eq_getElem?_getD]
 cases ha:l[i]? with
 | none =>
  have:m[i]?=none:=List.getElem?_eq_none (by rw [←h.len];exact List.getElem?_eq_none_iff.1 ha);rw [this];exact ⟨rfl,rfl⟩
 | some a =>
  obtain ⟨b,hb,e1,e2⟩:=h.get ha;rw [hb];exact ⟨e1.symm,e2.symm⟩
theorem Qjs (P:Tri→Bool):∀ (l m:List Tri) (k:Nat),l.map P=m.map P→((l.zipIdx k).filter (fun p=>P p.1)).map (fun p=>(p.2:Int))=((m.zipIdx k).filter (fun p=>P p.1)).map (fun p=>(p.2:Int))
 | [],[],_,_=>rfl
 | [],_::_,_,h=>by simp at h
 | _::_,[],_,h=>by simp at h
 | a::l,b::m,k,h=>by
  simp only [List.map_cons,List.cons.injEq] at h;have ih:=Qjs P l m (k+1) h.2;simp only [List.zipIdx_cons,List.filter_cons,h.1]
  split
  · simp only [List.map_cons,ih]
  · exact ih
theorem Qdu.cross {l m:List Tri}(h:Qdu l m)(c:List Int):Qax l c=Qax m c:=by
 refine Qjs (Qga c) l m 0 ?_
 apply List.ext_getElem?
 intro i;simp only [List.getElem?_map]
 cases ha:l[i]? with
 | none =>
  have:m[i]?=none:=List.getElem?_eq_none (by rw [←h.len];exact List.getElem?_eq_none_iff.1 ha);rw [this]
 | some a =>
  obtain ⟨b,hb,e1,e2⟩:=h.get ha;rw [hb];simp only [Option.map_some,Qga,e1,e2]
theorem Qdu.gateRow {l m:List Tri}(h:Qdu l m)(c:List Int):gateRow l c=gateRow m c:=by
 have h1:∀ a,toC l c a=toC m c a:=fun a=>by unfold toC;rw [(h.getD a.toNat).2]
 have h2:∀ a,frC l c a=frC m c a:=fun a=>by unfold frC;rw [(h.getD a.toNat).1]
 unfold YthoagdpakddbdaaGreatDoor.gateRow;rw [h.cross c];simp only [h1,h2]
theorem Qdu.gatesOf {l m:List Tri}(h:Qdu l m) (ls:List (List Int)):gatesOf l ls=gatesOf m ls:=by
 unfold YthoagdpakddbdaaGreatDoor.gatesOf;refine List.map_congr_left (fun c _=>h.gateRow c)
theorem Qex.alike {W:World}{o:Nat}{l m:List Tri} {ls:List (List Int)} (h:Qex W o l ls) (ha:Qdu m l):Qex W o m ls:=by
 obtain ⟨Q,F,T,G,S,L,k,cq,cf,ct,cg,cs,h⟩:=h;have e:=ha.gatesOf ls;exact ⟨Q,F,T,G,S,L,k,cq,cf,ct,cg,cs,h.n0,h.n1,h.n2,h.n3,h.n4,by rw [e];exact h.n5,h.part,by rw [ha.1];exact h.fr,by rw [ha.2];exact h.to,by rw [e];exact h.gates,by rw [e];exact h.starts,h.c0⟩
--BEGINPLAIN
def tb (ls:List (List Int)) (f:Nat→Nat→Bool):List (List Bool):=(List.range ls.length).map (fun i=>(List.range (Qam (ls.getD i [])).toNat).map (f i))
theorem Qia (ls:List (List Int)) (f:Nat→Nat→Bool):(tb ls f).length=ls.length:=by simp [tb]
theorem Qfc {ls:List (List Int)} {i:Nat} {l:List Int} (h:ls[i]?=some l):ls.getD i []=l:=by rw [List.getD_eq_getElem?_getD,h];rfl
theorem Qey {ls:List (List Int)} {f:Nat→Nat→Bool} {i:Nat} {l:List Int} (h:ls[i]?=some l):(tb ls f)[i]?=some ((List.range (Qam l).toNat).map (f i)):=by
 unfold tb;rw [List.getElem?_map,List.getElem?_range (Zs h).1,Option.map_some,Qfc h]
theorem Qcw {ls:List (List Int)} {f g:Nat→Nat→Bool} (h:∀ (i:Nat) (l:List Int),ls[i]?=some l→∀ q,q<(Qam l).toNat→f i q=g i q):tb ls f=tb ls g:=by
 unfold tb;refine List.map_congr_left (fun i hi=>List.map_congr_left (fun q hq=>?_));have hi:=Zg (List.mem_range.1 hi);refine h i _ hi q ?_;rw [Qfc hi] at hq;exact List.mem_range.1 hq
def Qmn (N:Qaj)(p:Int)(l:List Int)(k q:Nat):Bool:=(List.range k).any (fun v=>(N.vs.getD v (0,0,0)).2.2 == p && Qaf l (v:Int) == (q:Int))
theorem Qnc (N:Qaj)(p:Int)(l:List Int)(k q:Nat):Qmn N p l (k+1) q=(Qmn N p l k q || ((N.vs.getD k (0,0,0)).2.2 == p && Qaf l (k:Int) == (q:Int))):=by
 unfold Qmn;rw [List.range_succ,List.any_append];simp
theorem Qrh {N:Qaj}{p:Int}{l:List Int}{q:Nat}:Qmn N p l N.vs.length q=true↔∃ (v:Nat) (x:Tri),N.vs[v]?=some x∧x.2.2=p∧Qaf l (v:Int)=q:=by
 unfold Qmn;rw [List.any_eq_true]
 constructor
 · rintro ⟨v,hv,h⟩
   have hv:=List.mem_range.1 hv;rw [List.getD_eq_getElem?_getD,Zg hv] at h;simp only [Option.getD_some,Bool.and_eq_true,beq_iff_eq] at h;exact ⟨v,_,Zg hv,h.1,h.2⟩
 · rintro ⟨v,x,h1,h2,h3⟩
   refine ⟨v,List.mem_range.2 (Zs h1).1,?_⟩;rw [List.getD_eq_getElem?_getD,h1];simp [h2,h3]
def trnI (t:Qbw)(c:Chn):Nat:=c.2.2.1.toNat*t.outs.toNat+c.2.2.2.1.toNat
def chgM (N:Qaj)(c:Chn)(l:List Int)(q:Nat):Bool :=
 if c.1=1 then (match N.ar[c.2.1.toNat]? with|some y=>y.2.2 != c.w && (Qaf l y.1 == (q:Int) && Qaf l y.2.1 == (q:Int))|none=>false)
 else (match N.ts[c.2.1.toNat]? with|some t=>t.costs.getD (trnI t c) 0 != c.w && Qmn N c.2.1 l N.vs.length q|none=>false)
def tchB (N:Qaj)(ch:List Chn)(l:List Int)(q:Nat):Bool:=ch.any (fun c=>chgM N c l q)
def Qcz (N:Qaj) (ls:List (List Int)) (ch:List Chn) (i q:Nat):Bool:=tchB N ch (ls.getD i []) q
theorem Qwg (N:Qaj)(ch:List Chn)(c:Chn)(l:List Int)(q:Nat):tchB N (ch ++[c]) l q=(tchB N ch l q || chgM N c l q):=by simp [tchB]
theorem Qec.marks {N:Qaj}{c:Chn}{a:Nat}(h:Qec N c a){y:Tri} (hy:N.ar[a]?=some y) (l:List Int) (q:Nat):chgM N c l q=(y.2.2 != c.w && (Qaf l y.1 == (q:Int) && Qaf l y.2.1 == (q:Int))):=by
 unfold chgM;have e:c.2.1.toNat=a:=by rw [h.at_,Int.toNat_natCast]
 rw [if_pos h.k,e,hy]
theorem Qbc.marks {N:Qaj}{c:Chn}{p i:Nat}{t:Qbw}(h:Qbc N c p i t)(l:List Int)(q:Nat):chgM N c l q=(t.costs.getD i 0 != c.w && Qmn N (p:Int) l N.vs.length q):=by
 unfold chgM;have e:c.2.1.toNat=p:=by rw [h.at_,Int.toNat_natCast]
 rw [if_neg (by rw [h.k];decide),e,h.tt];simp only;rw [h.at_,show trnI t c=i from h.i.symm]
def netT (N M:Qaj)(l:List Int)(q:Nat):Prop :=
 (∃ (b:Nat) (y z:Tri),N.ar[b]?=some y∧M.ar[b]?=some z∧Qaf l y.1=(q:Int)∧Qaf l y.2.1=(q:Int)∧z.2.2≠y.2.2) ∨
 ∃ (v:Nat) (x:Tri),N.vs[v]?=some x∧Qaf l (v:Int)=(q:Int)∧M.ts[x.2.2.toNat]?≠N.ts[x.2.2.toNat]?
theorem Qpu {s t:Qbw}(h1:s.ins=t.ins)(h2:s.outs=t.outs) (h3:∀ i:Nat,s.costs[i]?=t.costs[i]?):s=t:=by
 cases s
 cases t
 simp only at h1 h2 h3;rw [h1,h2,List.ext_getElem? h3]
theorem Qqc {N:Qaj}(hN:Qas N){ch:List Chn}(h:Qbj N ch){l:List Int}{q:Nat}:tchB N ch l q=true↔netT N (Qef N ch) l q:=by
 unfold tchB;rw [List.any_eq_true]
 constructor
 · rintro ⟨c,hc,hm⟩
   rcases h.all c hc with ⟨a,hs⟩|⟨p,i,t,hb⟩
   · obtain ⟨⟨x,y,z⟩,ha⟩:∃ e,N.ar[a]?=some e:=⟨_,Zg hs.lt⟩
     rw [hs.marks ha] at hm;simp only [Bool.and_eq_true,beq_iff_eq,bne_iff_ne] at hm;obtain ⟨u,e1,e2,_⟩:=Qhx h ha;exact .inl ⟨a,_,_,ha,e1,hm.2.1,hm.2.2,by simp only;rw [e2 c hc hs];exact fun e=>hm.1 e.symm⟩
   · rw [hb.marks] at hm
     simp only [Bool.and_eq_true,bne_iff_ne] at hm;obtain ⟨v,x,hv,e1,e2⟩:=Qrh.1 hm.2;obtain ⟨t',k1,k2,k3,k4,k5⟩:=Qgv hN h hb.tt;refine .inr ⟨v,x,hv,e2,?_⟩;rw [e1,Int.toNat_natCast,k1,hb.tt];intro e
     cases e
     have h1:=(k5 i).1 c hc hb
     apply hm.1
     rw [List.getD_eq_getElem?_getD,h1]
     rfl
 · rintro (⟨b,⟨x,y,z⟩,z2,h1,h2,h3,h4,h5⟩|⟨v,x,h1,h2,h3⟩)
   · obtain ⟨u,e1,e2,e3⟩:=Qhx h h1
     rw [h2] at e1
     cases e1
     have:∃ c∈ch,Qec N c b:=by
      apply Classical.byContradiction
      intro hn;exact h5 (e3 (fun c hc hs=>hn ⟨c,hc,hs⟩))
     obtain ⟨c,hc,hs⟩:=this;refine ⟨c,hc,?_⟩;rw [hs.marks h1];simp only [Bool.and_eq_true,beq_iff_eq,bne_iff_ne];exact ⟨fun e=>h5 (by rw [e2 c hc hs];exact e.symm),h3,h4⟩
   · have ho:=hN.verts x (Zm h1)
     have t0:=ho.t0;have t1:=ho.t1;obtain ⟨p,hp⟩:∃ p:Nat,x.2.2=p:=⟨x.2.2.toNat,by omega⟩;rw [hp,Int.toNat_natCast] at h3;obtain ⟨t,ht⟩:∃ t,N.ts[p]?=some t:=⟨_,Zg (by omega)⟩;obtain ⟨t',k1,k2,k3,k4,k5⟩:=Qgv hN h ht
     have:∃ c∈ch,∃ i,Qbc N c p i t∧t.costs[i]?≠some c.w:=by
      apply Classical.byContradiction
      intro hn
      apply h3
      rw [k1,ht]
      congr 1
      refine Qpu k2 k3 (fun i=>?_)
      by_cases hex:∃ c∈ch,Qbc N c p i t
      · obtain ⟨c,hc,hb⟩:=hex
        rw [(k5 i).1 c hc hb];exact (Classical.byContradiction (fun hne=>hn ⟨c,hc,i,hb,hne⟩):t.costs[i]?=some c.w).symm
      · exact (k5 i).2 (fun c hc hb=>hex ⟨c,hc,hb⟩)
     obtain ⟨c,hc,i,hb,hne⟩:=this;refine ⟨c,hc,?_⟩;rw [hb.marks];simp only [Bool.and_eq_true,bne_iff_ne];refine ⟨fun e=>hne ?_,Qrh.2 ⟨v,x,h1,hp,h2⟩⟩;have hl:=hb.lt hN;rw [List.getD_eq_getElem?_getD,Zg hl] at e;rw [Zg hl];exact congrArg some e
theorem netT.symm {N M:Qaj}(hk:Kin N M){l:List Int}{q:Nat}(h:netT N M l q):netT M N l q:=by
 rcases h with ⟨b,y,z,h1,h2,h3,h4,h5⟩|⟨v,x,h1,h2,h3⟩
 · obtain ⟨y',e,q1,q2⟩:=hk.al.get h2
   rw [h1] at e
   cases e
   exact .inl ⟨b,z,y,h2,h1,by rw [←q1];exact h3,by rw [←q2];exact h4,fun e=>h5 e.symm⟩
 · exact .inr ⟨v,x,by rw [hk.vs];exact h1,h2,fun e=>h3 e.symm⟩
theorem Qdw.of {N M:Qaj}(hk:Kin N M){l:List Int}{q:Nat}(h:¬netT N M l q):Qdw N M (Qdz l q):=by
 have hc:∀ n:Nat,(Qdz l (q:Int)).getD n false=true→l.getD n 0=(q:Int):=by
  intro n hn;unfold Qdz at hn;rw [List.getD_eq_getElem?_getD,List.getElem?_map] at hn;rw [List.getD_eq_getElem?_getD]
  cases e:l[n]? with
  | none=>rw [e] at hn;simp at hn
  | some z=>rw [e] at hn;simpa using hn
 refine ⟨hk,fun b y z h1 h2 h3 h4=>?_,fun v x h1 h2=>?_⟩
 · exact Classical.byContradiction (fun e=>h (.inl ⟨b,y,z,h1,h2,hc _ h3,hc _ h4,e⟩))
 · refine Classical.byContradiction (fun e=>h (.inr ⟨v,x,h1,?_,e⟩))
   unfold Qaf;rw [Int.toNat_natCast];exact hc _ h2
--ENDPLAIN
--BEGINPLAIN
def oldW (N:Qaj)(c:Chn):Int:=if c.1=1 then (match N.ar[c.2.1.toNat]? with|some y=>y.2.2|none=>0) else (match N.ts[c.2.1.toNat]? with|some t=>t.costs.getD (trnI t c) 0|none=>0)
def Qme (N:Qaj)(c:Chn):Chn:=(c.1,c.2.1,c.2.2.1,c.2.2.2.1,oldW N c)
def Qdk (N:Qaj)(l:List Chn):List Chn:=l.map (Qme N)
theorem Qec.old {N:Qaj}{c:Chn}{a:Nat}(h:Qec N c a){y:Tri} (hy:N.ar[a]?=some y):oldW N c=y.2.2:=by
 unfold oldW;have e:c.2.1.toNat=a:=by rw [h.at_,Int.toNat_natCast]
 rw [if_pos h.k,e,hy]
theorem Qbc.old {N:Qaj}{c:Chn}{p i:Nat}{t:Qbw}(h:Qbc N c p i t):oldW N c=t.costs.getD i 0:=by
 unfold oldW;have e:c.2.1.toNat=p:=by rw [h.at_,Int.toNat_natCast]
 rw [if_neg (by rw [h.k];decide),e,h.tt];simp only;rw [show trnI t c=i from h.i.symm]
theorem Qbc.get {N:Qaj}(hN:Qas N){c:Chn}{p i:Nat}{t:Qbw}(h:Qbc N c p i t):t.costs[i]?=some (oldW N c):=by
 have hl:=h.lt hN;rw [h.old,List.getD_eq_getElem?_getD,Zg hl]
 rfl
theorem Qec.back {N:Qaj}(hN:Qas N){c:Chn}{a:Nat}(h:Qec N c a):Qec N (Qme N c) a:=by
 refine ⟨h.k,h.at_,h.i,h.o,h.lt,?_⟩;have hy:=Zg h.lt
 show wOk (oldW N c)=true
 rw [h.old hy];exact (hN.arcs _ (Zm hy)).w
theorem Qbc.back {N:Qaj}(hN:Qas N){c:Chn}{p i:Nat}{t:Qbw}(h:Qbc N c p i t):Qbc N (Qme N c) p i t:=by
 refine ⟨h.k,h.at_,h.tt,h.in0,h.in1,h.out0,h.out1,h.i,?_⟩;exact (hN.tabs t (Zm h.tt)).ok _ (Zm (h.get hN))
theorem Qmg {N:Qaj}(hN:Qas N){l:List Chn}(h:Qbj N l):Qbj (Qef N l) (Qdk N l):=by
 refine Qbj.shape (Qcb h) ⟨fun c hc=>?_,?_⟩
 · obtain ⟨d,hd,rfl⟩:=List.mem_map.1 hc
   rcases h.all d hd with ⟨a,hs⟩|⟨p,i,t,hb⟩
   · exact .inl ⟨a,hs.back hN⟩
   · exact .inr ⟨p,i,t,hb.back hN⟩
 · unfold Qdk
   rw [List.map_map,show Chn.key ∘ Qme N=Chn.key from rfl]
   exact h.keys
theorem Qqv {N:Qaj}(hN:Qas N){l:List Chn}(h:Qbj N l):Qef (Qef N l) (Qdk N l)=N:=by
 have hB:=Qmg hN h;have hM:=Qog hN h;have hs:=Qcb h;have hs2:=Qcb hB;have e1:(Qef (Qef N l) (Qdk N l)).vs=N.vs:=hs2.kin.vs.trans hs.kin.vs
 have e2:(Qef (Qef N l) (Qdk N l)).ar=N.ar:=by
  apply List.ext_getElem?
  intro a
  cases ha:N.ar[a]? with
  | none=>exact List.getElem?_eq_none (by rw [(hs.kin.trans hs2.kin).al.len];exact List.getElem?_eq_none_iff.1 ha)
  | some y =>
   obtain ⟨x,y,z⟩:=y;obtain ⟨u,k1,k2,k3⟩:=Qhx h ha;obtain ⟨u',g1,g2,g3⟩:=Qhx hB k1;rw [g1]
   have:u'=z:=by
    by_cases hex:∃ c∈l,Qec N c a
    · obtain ⟨c,hc,hcs⟩:=hex
      rw [g2 (Qme N c) (List.mem_map.2 ⟨c,hc,rfl⟩) ((hcs.back hN).shape hs)];exact hcs.old ha
    · rw [g3 (fun c hc hcs=>?_),k3 (fun c hc hcs=>hex ⟨c,hc,hcs⟩)]
      obtain ⟨d,hd,rfl⟩:=List.mem_map.1 hc;refine hex ⟨d,hd,hcs.k,hcs.at_,hcs.i,hcs.o,(Zs ha).1,?_⟩
      rcases h.all d hd with ⟨_,q⟩|⟨_,_,_,q⟩ <;> exact q.w
   rw [this]
 have e3:(Qef (Qef N l) (Qdk N l)).ts=N.ts:=by
  apply List.ext_getElem?
  intro p
  cases ht:N.ts[p]? with
  | none=>exact List.getElem?_eq_none (by rw [hs2.tl,hs.tl];exact List.getElem?_eq_none_iff.1 ht)
  | some t =>
   obtain ⟨t1,k1,k2,k3,k4,k5⟩:=Qgv hN h ht;obtain ⟨t2,g1,g2,g3,g4,g5⟩:=Qgv hM hB k1;rw [g1]
   congr 1
   refine Qpu (g2.trans k2) (g3.trans k3) (fun i=>?_)
   have mv:∀ {d:Chn},Qbc N d p i t→Qbc (Qef N l) d p i t1:=fun hd =>
    ⟨hd.k,hd.at_,k1,hd.in0,by rw [k2];exact hd.in1,hd.out0,by rw [k3];exact hd.out1,by rw [k3];exact hd.i,hd.w⟩
   by_cases hex:∃ c∈l,Qbc N c p i t
   · obtain ⟨c,hc,hcb⟩:=hex
     rw [(g5 i).1 (Qme N c) (List.mem_map.2 ⟨c,hc,rfl⟩) (mv (hcb.back hN))];exact (hcb.get hN).symm
   · rw [(g5 i).2 (fun c hc hcb=>?_),(k5 i).2 (fun c hc hcb=>hex ⟨c,hc,hcb⟩)]
     obtain ⟨d,hd,rfl⟩:=List.mem_map.1 hc;refine hex ⟨d,hd,hcb.k,hcb.at_,ht,hcb.in0,by rw [←k2];exact hcb.in1,hcb.out0,by rw [←k3];exact hcb.out1,by rw [←k3];exact hcb.i,?_⟩
     rcases h.all d hd with ⟨_,q⟩|⟨_,_,_,q⟩ <;> exact q.w
 revert e1 e2 e3
 cases Qef (Qef N l) (Qdk N l)
 cases N
 simp only;rintro rfl rfl rfl
 rfl
theorem bool_iff {a b:Bool}(h:a=true↔b=true):a=b:=by
 cases a <;> cases b <;> simp_all
theorem tch_back {N:Qaj}(hN:Qas N){l:List Chn}(h:Qbj N l)(r:List Int)(q:Nat):tchB (Qef N l) (Qdk N l) r q=tchB N l r q:=by
 refine bool_iff ?_;rw [Qqc (Qog hN h) (Qmg hN h),Qqc hN h,Qqv hN h];exact ⟨fun g=>g.symm (Qcb h).kin.symm,fun g=>g.symm (Qcb h).kin⟩
theorem Qvs:∀ {l m:List Chn}{N:Qaj},Qbj N (l ++m)→Qbj N l∧Qbj (Qef N l) m
 | [],m,N,h=>⟨⟨fun c hc=>by simp at hc,by simp⟩,h⟩
 | c::l,m,N,h=>by
  obtain ⟨h1,h2⟩:=Qvs (l:=l) (m:=m) h.tail;refine ⟨⟨fun d hd=>h.all d ?_,?_⟩,h2⟩
  · rcases List.mem_cons.1 hd with rfl|hd
    · exact List.mem_append_left _ (List.mem_cons_self ..)
    · exact List.mem_append_left _ (List.mem_cons_of_mem _ hd)
  · have:=h.keys
    rw [List.map_append,List.nodup_append] at this;exact this.1
def howR (r:List Bool):Nat:=r.countP (fun b=>b)
def Qsv (t:List (List Bool)):Nat:=(t.map howR).sum
theorem Qvt {r:List Bool}{i:Nat}{b:Bool} (h:r[i]?=some b):howR (r.take (i+1))=howR (r.take i)+(if b=true then 1 else 0):=by
 rw [List.take_succ_eq_append_getElem (Zs h).1,(Zs h).2];unfold howR;rw [List.countP_append];simp
theorem Qvw {t:List (List Bool)} {i:Nat} {r:List Bool} (h:t[i]?=some r):Qsv (t.take (i+1))=Qsv (t.take i)+howR r:=by
 rw [List.take_succ_eq_append_getElem (Zs h).1,(Zs h).2];unfold Qsv;simp
--ENDPLAIN
def Qgm (N M:Qaj) (ls:List (List Int)) (i c:Nat) (cl:List Int):Prop:=∀ (k:Nat) (lb:List Int) (q:Nat) (y:Qal) (a b s t:Nat),¬(k<i∨k=i∧q<c)→ls[k]?=some lb→(gateRow M.ar lb)[q]?=some y→y.1[a]?=some (s:Int)→y.2[b]?=some (t:Int) →
 Qhk N (Qdz lb q) s t (cl.getD (Qhl (gatesOf M.ar ls) (gateRow M.ar lb) k q y a b) 0)
theorem Qgm.start {N M:Qaj}(hk:Kin N M) {ls:List (List Int)} {cl:List Int} (h:Qfe N ls cl):Qgm N M ls 0 0 cl:=fun k lb q y a b s t _ hb hy h1 h2=>by
 rw [hk.al.gateRow] at hy;rw [hk.al.gatesOf,hk.al.gateRow];exact h.done ls.length 0 k lb q y a b s t (.inl (Zs hb).1) hb hy h1 h2
theorem Qgm.skip {N M:Qaj} {ls:List (List Int)} {i c:Nat} {cl:List Int} (h:Qgm N M ls i c cl):Qgm N M ls i (c+1) cl:=fun k lb q y a b s t hn=>h k lb q y a b s t (by omega)
theorem Qgm.up {N M:Qaj} {ls:List (List Int)} {i c:Nat} {cl:List Int} (h:Qgm N M ls i c cl):Qgm N M ls (i+1) 0 cl:=fun k lb q y a b s t hn=>h k lb q y a b s t (by omega)
theorem Qgm.next {N M:Qaj} {ls:List (List Int)} {i c:Nat} {l:List Int} {x:Qal} {cl ces:List Int} (h:Qgm N M ls i c cl) (hl:ls[i]?=some l) (hx:(gateRow M.ar l)[c]?=some x) (hn:ces.length=szG x)
 (hfit:Qbo ((gatesOf M.ar ls).take i)+Qde ((gateRow M.ar l).take c)+szG x≤cl.length) :
 Qgm N M ls i (c+1) (splice cl (Qbo ((gatesOf M.ar ls).take i)+Qde ((gateRow M.ar l).take c)) ces):=fun k lb q y a b s t hk hb hy h1 h2=>by
 have hge:Qbo ((gatesOf M.ar ls).take i)+Qde ((gateRow M.ar l).take c)+szG x≤Qhl (gatesOf M.ar ls) (gateRow M.ar lb) k q y a b:=by
  have e1:=Qcy hx;unfold Qhl
  by_cases e:k=i
  · subst e
    rw [hl] at hb
    cases hb
    have:=Qez (gateRow M.ar l) (show c+1≤q by omega)
    omega
  · have e2:=Qfd (gatesOf M.ar ls) (show i+1≤k by omega)
    rw [Qdc (Qbf (ar:=M.ar) hl)] at e2;have e3:=Qha (gateRow M.ar l) (c+1);omega
 rw [Qjc (by omega),if_neg (by omega),if_neg (by omega)];exact h k lb q y a b s t (by omega) hb hy h1 h2
theorem ends_in {N:Qaj}(hok:Qas N){l:List Int}(hl:l.length=N.vs.length){c:Nat}{x:Qal} (hx:(gateRow N.ar l)[c]?=some x) {a s:Nat} (h:x.1[a]?=some (s:Int)):∀ y,N.ar[s]?=some y→(Qdz l c).getD y.2.1.toNat false=true:=fun y hy=>by
 obtain ⟨y',e,_,h2⟩:=(Qds hx).1 (Zm h);rw [hy] at e
 cases e
 have ho:=hok.arcs y (Zm hy);have g0:=ho.g0;have g1:=ho.g1;exact (Qhe (by omega)).2 h2
theorem Qdg.keep {N M:Qaj}(hok:Qas N)(hs:Kin N M) {ls:List (List Int)} {i c:Nat} {l:List Int} {cl:List Int} (h:Qdg M ls i c cl) (hr:Qgm N M ls i c cl) (hl:ls[i]?=some l) (hll:l.length=N.vs.length) (hc:¬netT N M l c):Qdg M ls i (c+1) cl:=fun k lb q y a b s t hk hb hy h1 h2=>by
 by_cases hkq:k<i∨k=i∧q<c
 · exact h k lb q y a b s t hkq hb hy h1 h2
 · obtain ⟨rfl,rfl⟩:k=i∧q=c:=by omega
   have he:=hr k lb q y a b s t hkq hb hy h1 h2;rw [hl] at hb
   cases hb
   refine (Qdw.of hs hc).ent (ends_in hok hll ?_ h1) he;rw [←hs.al.gateRow];exact hy
def Qwz (a b:List Int)(f n:Nat):Bool:=(List.range n).any (fun k=>a.getD (f+k) 0 != b.getD (f+k) 0)
theorem Quj (a b:List Int)(f n:Nat):Qwz a b f (n+1)=(Qwz a b f n || a.getD (f+n) 0 != b.getD (f+n) 0):=by
 unfold Qwz;rw [List.range_succ,List.any_append];simp
theorem Qhv {a b:List Int}{f n:Nat}:Qwz a b f n=false↔∀ k,k<n→a.getD (f+k) 0=b.getD (f+k) 0:=by
 unfold Qwz;rw [List.any_eq_false];simp
def Qqg (ar:List Tri) (ls:List (List Int)) (i q:Nat):Nat:=Qbo ((gatesOf ar ls).take i)+Qde ((gateRow ar (ls.getD i [])).take q)
def Qvr (ar:List Tri) (ls:List (List Int)) (i q:Nat):Nat:=szG ((gateRow ar (ls.getD i [])).getD q ([],[]))
def difI (ar:List Tri) (ls:List (List Int)) (a b:List Int) (i q:Nat):Bool:=Qwz a b (Qqg ar ls i q) (Qvr ar ls i q)
def Qbi:List Chn→List Value
 | []=>[]
 | p::t=>.int .i64 p.1::.int .i64 p.2.1::.int .i64 p.2.2.1::.int .i64 p.2.2.2.1::.int .i64 p.2.2.2.2::Qbi t
theorem Qfo:∀ l:List Chn,(Qbi l).length=l.length*5
 | []=>rfl
 | _::t=>by simp [Qbi,Qfo t];omega
theorem Qkv:∀ l m:List Chn,Qbi (l ++m)=Qbi l ++Qbi m
 | [],_=>rfl
 | p::t,m=>by simp [Qbi,Qkv t m]
theorem Qpy {L:List Chn}{k:Nat}{p:Chn} (h:L[k]?=some p):Qbi (L.take (k+1))=Qbi (L.take k) ++[.int .i64 p.1,.int .i64 p.2.1,.int .i64 p.2.2.1,.int .i64 p.2.2.2.1,.int .i64 p.2.2.2.2]:=by
 obtain ⟨hlt,e⟩:=Zs h;rw [List.take_succ_eq_append_getElem hlt,e,Qkv]
 rfl
theorem Qfs:∀ {l:List Chn}{i:Nat}{p:Chn},l[i]?=some p→(Qbi l)[i*5]?=some (.int .i64 p.1)∧(Qbi l)[i*5+1]?=some (.int .i64 p.2.1)∧(Qbi l)[i*5+2]?=some (.int .i64 p.2.2.1)∧(Qbi l)[i*5+3]?=some (.int .i64 p.2.2.2.1)∧(Qbi l)[i*5+4]?=some (.int .i64 p.2.2.2.2)
 | [],i,p,h=>by simp at h
 | q::t,0,p,h=>by simp at h;subst h;simp [Qbi]
 | q::t,i+1,p,h=>by
  have:=Qfs (l:=t) (i:=i) (p:=p) (by simpa using h);rw [show (i+1)*5=i*5+1+1+1+1+1 by omega,show i*5+1+1+1+1+1+1=(i*5+1)+1+1+1+1+1 by omega,show i*5+1+1+1+1+1+2=(i*5+2)+1+1+1+1+1 by omega,show i*5+1+1+1+1+1+3=(i*5+3)+1+1+1+1+1 by omega,show i*5+1+1+1+1+1+4=(i*5+4)+1+1+1+1+1 by omega]
  simpa [Qbi] using this
theorem Qkl (l:List Chn):∀ u∈Qbi l,u.oneCell'=true:=by
 induction l with
 | nil=>intro u hu;cases hu
 | cons p t ih =>
  intro u hu;simp only [Qbi,List.mem_cons] at hu
  rcases hu with rfl|rfl|rfl|rfl|rfl|hu
  · rfl
  · rfl
  · rfl
  · rfl
  · rfl
  · exact ih u hu
def Qiu (w:World)(A:Option Addr)(n:Nat)(l:List Chn):Prop :=
 l.length=n∧∀ i x,l[i]?=some x→∃ b o,A=some ⟨b,o,none⟩∧w.cell? ⟨b,o+i*5,none⟩=some (.int .i64 x.1)∧w.cell? ⟨b,o+i*5+1,none⟩=some (.int .i64 x.2.1)∧w.cell? ⟨b,o+i*5+2,none⟩=some (.int .i64 x.2.2.1)∧w.cell? ⟨b,o+i*5+3,none⟩=some (.int .i64 x.2.2.2.1)∧w.cell? ⟨b,o+i*5+4,none⟩=some (.int .i64 x.2.2.2.2)
theorem Qiu.at_ {w:World}{A:Option Addr}{n i:Nat}{l:List Chn}(h:Qiu w A n l)(hi:i<n) :
 ∃ b o x y z u v,A=some ⟨b,o,none⟩∧l[i]?=some (x,y,z,u,v)∧w.cell? ⟨b,o+i*5,none⟩=some (.int .i64 x)∧w.cell? ⟨b,o+i*5+1,none⟩=some (.int .i64 y)∧w.cell? ⟨b,o+i*5+2,none⟩=some (.int .i64 z)∧w.cell? ⟨b,o+i*5+3,none⟩=some (.int .i64 u)∧w.cell? ⟨b,o+i*5+4,none⟩=some (.int .i64 v):=by
 have hl:i<l.length:=by rw [h.1];exact hi
 obtain ⟨b,o,e,hc⟩:=h.2 i _ (Zg hl);exact ⟨b,o,_,_,_,_,_,e,Zg hl,hc⟩
theorem Qiu.le {w w':World}{A:Option Addr}{n:Nat}{l:List Chn}(h:Qiu w A n l)(hb:Le w w'):Qiu w' A n l :=
 ⟨h.1,fun i x hx=>by
  obtain ⟨b,o,e,h1,h2,h3,h4,h5⟩:=h.2 i x hx;exact ⟨b,o,e,hb _ _ h1,hb _ _ h2,hb _ _ h3,hb _ _ h4,hb _ _ h5⟩⟩
theorem Qiu.below {w w':World}{A:Option Addr}{n:Nat}{l:List Chn}(h:Qiu w A n l)(hb:Below w.heap.size w w'):Qiu w' A n l:=h.le (Le.below hb)
theorem Rds.rdC {w:World}{n:Nat}{A:Option Addr}{l:List Chn} (h:Rds w 5 A n (Qbi l)):Qiu w A n l :=
 ⟨by have:=h.1;rw [Qfo] at this;omega,fun i p hp=>by
  obtain ⟨h1,h2,h3,h4,h5⟩:=Qfs hp;obtain ⟨b,o,e,c1⟩:=h.2 _ _ h1;obtain ⟨b',o',e',c2⟩:=h.2 _ _ h2;rw [e] at e';cases e'
  obtain ⟨b',o',e',c3⟩:=h.2 _ _ h3;rw [e] at e';cases e'
  obtain ⟨b',o',e',c4⟩:=h.2 _ _ h4;rw [e] at e';cases e'
  obtain ⟨b',o',e',c5⟩:=h.2 _ _ h5;rw [e] at e';cases e'
  exact ⟨b,o,e,c1,by rw [Nat.add_assoc];exact c2,by rw [Nat.add_assoc];exact c3,by rw [Nat.add_assoc];exact c4,by rw [Nat.add_assoc];exact c5⟩⟩
/-! rows of rows of marks -/
def RdQ (w:World)(A:Option Addr)(n:Nat) (ls:List (List Bool)):Prop :=
 ls.length=n∧∀ i l,ls[i]?=some l→∃ b o A' n' c',A=some ⟨b,o,none⟩∧w.cell? ⟨b,o+i,none⟩=some (.slice A' n' c')∧RdB w A' n' l∧n'≤c'∧c'≤9223372036854775807
theorem RdQ.at_ {w:World}{A:Option Addr}{n i:Nat} {ls:List (List Bool)} (h:RdQ w A n ls) (hi:i<n) :
 ∃ b o A' n' c' l,A=some ⟨b,o,none⟩∧ls[i]?=some l∧w.cell? ⟨b,o+i,none⟩=some (.slice A' n' c')∧RdB w A' n' l∧n'≤c'∧c'≤9223372036854775807:=by
 have hl:i<ls.length:=by rw [h.1];exact hi
 obtain ⟨b,o,A',n',c',h1,h2,h3,h4,h5⟩:=h.2 i _ (Zg hl);exact ⟨b,o,A',n',c',_,h1,Zg hl,h2,h3,h4,h5⟩
theorem RdQ.below {w w':World}{A:Option Addr}{n:Nat} {ls:List (List Bool)} (h:RdQ w A n ls) (hb:Below w.heap.size w w'):RdQ w' A n ls :=
 ⟨h.1,fun i l hl=>by
  obtain ⟨b,o,A',n',c',h1,h2,h3,h4,h5⟩:=h.2 i l hl;exact ⟨b,o,A',n',c',h1,Zc hb (Zn _) h2,h3.below hb,h4,h5⟩⟩
structure TlW (W:World) (B T:Nat) (cs:List Value) (bs:List Nat) (rows:List (List Bool)):Prop where
 lo:B≤T
 box:Blk W T 80 cs.toArray
 n:bs.length=rows.length
 at_:∀ (i b:Nat) (r:List Bool),bs[i]?=some b→rows[i]?=some r→cs[i]?=some (.slice (some ⟨b,0,none⟩) r.length r.length)
 row:∀ (i b:Nat) (r:List Bool),bs[i]?=some b→rows[i]?=some r→Blk W b 4 (Qdh r)
 blo:∀ b∈bs,B≤b∧b≠T
 nd:bs.Nodup
section
variable {W W':World} {B T:Nat} {cs:List Value} {bs:List Nat} {rows:List (List Bool)}
theorem TlW.get (h:TlW W B T cs bs rows){i:Nat}{r:List Bool} (hr:rows[i]?=some r):∃ b,bs[i]?=some b∧cs[i]?=some (.slice (some ⟨b,0,none⟩) r.length r.length)∧Blk W b 4 (Qdh r)∧B≤b∧b≠T:=by
 have hi:=(Zs hr).1;obtain ⟨b,hb⟩:∃ b,bs[i]?=some b:=⟨_,Zg (by rw [h.n];exact hi)⟩;have:=h.blo b (Zm hb);exact ⟨b,hb,h.at_ i b r hb hr,h.row i b r hb hr,this.1,this.2⟩
theorem TlW.cell (h:TlW W B T cs bs rows){i:Nat}{u:Value} (hc:cs[i]?=some u):W.cell? ⟨T,i,none⟩=some u:=by rw [h.box.cell];simpa using hc
theorem TlW.below (h:TlW W B T cs bs rows)(hb:Below W.heap.size W W'):TlW W' B T cs bs rows :=
 ⟨h.lo,h.box.below hb h.box.lt,h.n,h.at_,fun i b r h1 h2=>(h.row i b r h1 h2).below hb (h.row i b r h1 h2).lt,h.blo,h.nd⟩
theorem TlW.rdQ (h:TlW W B T cs bs rows)(hl:∀ r∈rows,r.length≤9223372036854775807):RdQ W (some ⟨T,0,none⟩) rows.length rows :=
 ⟨rfl,fun i r hr=>by
  obtain ⟨b,_,h2,h3,_⟩:=h.get hr;refine ⟨T,0,_,r.length,r.length,rfl,by rw [Nat.zero_add];exact h.cell h2,?_,Zn _,hl r (Zm hr)⟩;exact h3.rdB rfl⟩
theorem TlW.mark (h:TlW W B T cs bs rows){i b q:Nat}{r:List Bool} (hb:bs[i]?=some b) (hr:rows[i]?=some r) (v:Bool):TlW (W.setCell ⟨b,q,none⟩ (.bool v)) B T cs bs (rows.set i (r.set q v)):=by
 have hlt:=(Zs hr).1;have hbl:=(Zs hb).1;refine ⟨h.lo,?_,by rw [List.length_set];exact h.n,fun j b' r' h1 h2=>?_,fun j b' r' h1 h2=>?_,h.blo,h.nd⟩
 · exact h.box.far_ (h.blo b (Zm hb)).2.symm _
 · by_cases e:i=j
   · subst e
     rw [List.getElem?_set_self hlt] at h2
     cases h2
     rw [List.length_set];exact h.at_ i b' r h1 hr
   · rw [List.getElem?_set_ne e] at h2
     exact h.at_ j b' r' h1 h2
 · by_cases e:i=j
   · subst e
     rw [List.getElem?_set_self hlt] at h2
     cases h2
     rw [hb] at h1
     cases h1
     exact (h.row i b r hb hr).setB rfl
   · rw [List.getElem?_set_ne e] at h2
     have hne:b≠b':=fun e2=>by
      subst e2;exact e ((List.getElem?_inj hbl h.nd).1 (hb.trans h1.symm))
     exact (h.row j b' r' h1 h2).far_ (fun e2=>hne e2.symm) _
end
theorem TlW.start {W:World}{B T:Nat}{cs:List Value}(h:Blk W T 80 cs.toArray)(hB:B≤T):TlW W B T cs [] [] :=
 ⟨hB,h,rfl,fun i b r h1=>by simp at h1,fun i b r h1=>by simp at h1,fun b hb=>by simp at hb,by simp⟩
end Go.Proofs.YthoagdpakddbdaaGreatDoor
namespace Go.Proofs.YthoagdpakddbdaaGreatDoor
open Go.RowKit Go.Extern.Stop Go.Stop Go.Extern Go.Proofs.Tryz
abbrev Qqa (c:Int):Value:=.iface 100 (.int .i64 c)
abbrev fltV (b o:Nat):Value:=.iface 99 (.pointer (some ⟨b,o,none⟩))
def Qcm (w:World):Value→List (ByteArray×Int)→Int→Prop
 | v,[],c=>v=Qqa c
 | v,p::ps,c=>∃ b o u,v=fltV b o∧w.cell? ⟨b,o,none⟩=some (.string p.1)∧w.cell? ⟨b,o+1,none⟩=some (.int .i64 p.2)∧w.cell? ⟨b,o+2,none⟩=some u∧Qcm w u ps c
theorem Qcm.below {w w':World}(hb:Below w.heap.size w w'):∀ {ps:List (ByteArray×Int)} {v:Value} {c:Int},Qcm w v ps c→Qcm w' v ps c
 | [],_,_,h=>h
 | _::_,_,_,h=>by
  obtain ⟨b,o,u,h1,h2,h3,h4,h5⟩:=h;exact ⟨b,o,u,h1,Zc hb (Zn _) h2,Zc hb (Zn _) h3,Zc hb (Zn _) h4,Qcm.below hb h5⟩
/-! closed facts -/
theorem Quc (v:Value)(w:World):(ReflectliteType.typeOf #[.iface 100 v]).run prog w=.ok (.iface 213 (.agg #[.pointer (some ⟨1,100,none⟩)])) w:=by kernel_rfl
def erComp : Array Value → Sem Value := ReflectliteType.method fun t => do Rtype.noPackHeld "Comparable" t; pure (.bool (← typeInfo t).comparable)
theorem Qlq (w:World):(erComp #[.agg #[.pointer (some ⟨1,100,none⟩)]]).run prog w=.ok (.bool true) w:=by kernel_rfl
theorem Qkg (v : Value) (w : World) : (Go.method 426 213 v "Comparable").run Tryz.prog w = .ok (217, v) w := by kernel_rfl
theorem er_noIs (v:Value)(xT:TypeId)(w:World):(Instr.typeAssert (.iface 100 v) xT 215 true).run prog w=.ok (.tuple #[.nilIface,.bool false]) w:=run_typeAssert_lacksB underlying215 (by kernel_rfl) (by kernel_rfl) v xT w
theorem er_noIsF (v:Value)(xT:TypeId)(w:World):(Instr.typeAssert (.iface 99 v) xT 215 true).run prog w=.ok (.tuple #[.nilIface,.bool false]) w:=run_typeAssert_lacksB underlying215 (by kernel_rfl) (by kernel_rfl) v xT w
theorem Qpz (v:Value)(xT:TypeId)(w:World):(Instr.typeAssert (.iface 100 v) xT 218 true).run prog w=.ok (.tuple #[.nilIface,.bool false]) w:=run_typeAssert_lacksB underlying218 (by kernel_rfl) (by kernel_rfl) v xT w
theorem Qmq (v:Value)(xT:TypeId)(w:World):(Instr.typeAssert (.iface 100 v) xT 220 true).run prog w=.ok (.tuple #[.nilIface,.bool false]) w:=run_typeAssert_lacksB underlying220 (by kernel_rfl) (by kernel_rfl) v xT w
theorem er_noAs (v:Value)(xT:TypeId)(w:World):(Instr.typeAssert (.iface 100 v) xT 225 true).run prog w=.ok (.tuple #[.nilIface,.bool false]) w:=run_typeAssert_lacksB underlying225 (by kernel_rfl) (by kernel_rfl) v xT w
theorem Qls (v:Value)(xT:TypeId)(w:World):(Instr.typeAssert (.iface 99 v) xT 218 true).run prog w=.ok (.tuple #[.iface 99 v,.bool true]) w:=run_typeAssert_hasB underlying218 (by kernel_rfl) v xT w
theorem Qsx (v : Value) (w : World) : (Go.method 426 99 v "Unwrap").run Tryz.prog w = .ok (209, v) w := by kernel_rfl
theorem er_comp:(Tryz.prog.info? 100).map (·.comparable)=some true:=by kernel_rfl
theorem er_eq (a b:Int)(w:World):(binOp .eql 42 (Qqa a) (Qqa b)).run prog w=.ok (.bool (a == b)) w:=Lib.run_eql_iface_int w a b underlying42 er_comp underlying100
theorem er_ne (p:Value)(b:Int)(w:World):(binOp .eql 42 (.iface 99 p) (Qqa b)).run prog w=.ok (.bool false) w:=run_eql_iface_types (P:=prog) 99 100 p (.int .i64 b) underlying42 (by decide) w
theorem Qiy {w:World}{v:Value} {ps:List (ByteArray×Int)} {c:Int} (h:Qcm w v ps c):v=Qqa c∧ps=[]∨∃ b o u p t,v=fltV b o∧ps=p::t∧w.cell? ⟨b,o,none⟩=some (.string p.1)∧w.cell? ⟨b,o+1,none⟩=some (.int .i64 p.2)∧w.cell? ⟨b,o+2,none⟩=some u∧Qcm w u t c:=by
 cases ps with
 | nil=>exact .inl ⟨h,rfl⟩
 | cons p t=>obtain ⟨b,o,u,h1,h2,h3,h4,h5⟩:=h;exact .inr ⟨b,o,u,p,t,h1,rfl,h2,h3,h4,h5⟩
theorem Qco {w:World}{v:Value} {ps:List (ByteArray×Int)} {c:Int} (h:Qcm w v ps c):∃ t x,v=.iface t x:=by
 rcases Qiy h with ⟨h,_⟩|⟨b,o,u,p,t,h,_⟩ <;> exact ⟨_,_,h⟩
theorem Qnk {w:World}:∀ {ps qs:List (ByteArray×Int)} {v:Value} {c d:Int},Qcm w v ps c→Qcm w v qs d→ps.length=qs.length
 | [],[],_,_,_,_,_=>rfl
 | [],_::_,_,_,_,h,g=>by obtain ⟨b,o,u,h1,_⟩:=g;unfold Qcm at h;rw [h] at h1;cases h1
 | _::_,[],_,_,_,g,h=>by obtain ⟨b,o,u,h1,_⟩:=g;unfold Qcm at h;rw [h] at h1;cases h1
 | _::_,_::_,_,_,_,h,g=>by
  obtain ⟨b,o,u,h1,_,_,h2,h3⟩:=h;obtain ⟨b',o',u',g1,_,_,g2,g3⟩:=g;rw [h1] at g1
  cases g1
  rw [h2] at g2
  cases g2
  simp [Qnk h3 g3]
noncomputable def Qiq (w:World) (v:Value):Nat:=by
 classical exact if h:∃ n c,∃ ps,Qcm w v ps c∧ps.length=n then h.choose else 0
theorem Qpl {w:World} {ps:List (ByteArray×Int)} {v:Value} {c:Int} (h:Qcm w v ps c):Qiq w v=ps.length:=by
 have hex:∃ n c,∃ ps,Qcm w v ps c∧ps.length=n:=⟨_,c,ps,h,rfl⟩;unfold Qiq;rw [dif_pos hex];obtain ⟨d,qs,g,hl⟩:=hex.choose_spec;rw [←hl];exact Qnk g h
theorem Qsa (b o:Nat)(u:Value)(w:World)(h:w.cell? ⟨b,o+2,none⟩=some u) :
 Calls prog 209 #[.pointer (some ⟨b,o,none⟩)] w fun e w'=>e=.returned u∧w'=w:=by
 go_enter func209,ntmps209
 go_wp2
 go_ret
 exact ⟨rfl,rfl⟩
set_option maxHeartbeats 1000000 in
theorem is_loop (v:Value) (ps:List (ByteArray×Int)) (c:Int) (w:World) (h:Qcm w v ps c) :
 Calls prog 81 #[v,Qqa c,.bool true] w fun e w'=>e=.returned (.bool true)∧w'=w:=by
 have nE:=er_noIs;have nF:=er_noIsF;have uF:=Qls;have mU:=Qsx;have heq:=er_eq;have hne:=er_ne;have hCL:∀ (ps:List (ByteArray×Int)) (v:Value) (c:Int),Qcm w v ps c→Qiq w v=ps.length:=fun _ _ _ h=>Qpl h
 have HCL:=Zh hCL;clear hCL;have HU:∀ (b o:Nat) (u:Value),w.cell? ⟨b,o+2,none⟩=some u→Calls prog 209 #[.pointer (some ⟨b,o,none⟩)] w fun e w'=>e=.returned u∧w'=w:=fun b o u h=>Qsa b o u w h
 have HU':=Zh HU;clear HU
 go_enter func81,ntmps81
 go_wp2
 go_loop [0] (fun i=>∃ qs,Qcm w i qs c) (fun i=>Qiq w i)
 case atStart=>exact ⟨ps,h⟩
 case round =>
  obtain ⟨qs,hq⟩:=hrel
  rcases Qiy hq with ⟨rfl,rfl⟩|⟨b,o,u,p,t,rfl,rfl,h1,h2,h3,h4⟩
  · clear hq h
    go_wp2
    go_ret
    exact ⟨rfl,rfl⟩
  · obtain ⟨tu,xu,rfl⟩:=Qco h4
    have e1:=HCL.out _ _ _ hq;have e2:=HCL.out _ _ _ h4;have E1:=Zh e1;clear e1;have E2:=Zh e2;clear e2;have H4:=Zh h4;clear h4;have h3':=h3;clear hq h
    go_wp2_with (go_at_call 209;refine (HU'.out b o _ h3).mono ?_;rintro e w' ⟨rfl,rfl⟩)
    go_round
    case rel=>exact ⟨t,H4.out⟩
    case measure=>rw [E1.out,E2.out];simp
set_option maxHeartbeats 1000000 in
theorem errorsIs (v:Value) (ps:List (ByteArray×Int)) (c:Int) (w:World) (h:Qcm w v ps c) :
 Calls prog 43 #[v,Qqa c] w fun e w'=>e=.returned (.bool true)∧w'=w:=by
 have h10:=@run_callFunc_extern prog 80 _ ReflectliteType.typeOf func80 (by kernel_rfl) (by kernel_rfl) (by kernel_rfl) (by kernel_rfl);have h32:=@run_callFunc_extern prog 217 _ erComp func217 (by kernel_rfl) (by kernel_rfl) (by kernel_rfl) (by kernel_rfl);have tT:=Quc;have cT:=Qlq;have mR:=Qkg;have HL:=Zh (is_loop v ps c w h);obtain ⟨tv,xv,rfl⟩:=Qco h;clear h
 go_enter func43,ntmps43
 go_wp2_with (go_at_call 81;refine (HL.out).mono ?_;rintro e w' ⟨rfl,rfl⟩)
 go_ret
 exact ⟨rfl,rfl⟩
end Go.Proofs.YthoagdpakddbdaaGreatDoor
