/- Parts of the proof: Wp, BkQ, Mp, RiP. -/
import Derived.Test.YthoagdpakddbdaaGreatDoorD1
import Derived.Test.YthoagdpakddbdaaGreatDoorD2
import Derived.Test.YthoagdpakddbdaaGreatDoorD9
import Derived.Test.YthoagdpakddbdaaGreatDoorD16
import Derived.Test.YthoagdpakddbdaaGreatDoorD17
import Derived.Test.YthoagdpakddbdaaGreatDoorD18
import Derived.Maps.OwnSet
import Derived.Maps.OwnOps
namespace Go.Proofs.YthoagdpakddbdaaGreatDoor
theorem Qkp (l:List Nat):∀ {a b:Nat},a≤b→(l.take a).sum≤(l.take b).sum:=by
 induction l with
 | nil=>intro a b _;simp
 | cons x t ih =>
  intro a b h
  cases a with
  | zero=>simp
  | succ a =>
   cases b with
   | zero=>omega
   | succ b =>
    have:=ih (a:=a) (b:=b) (by omega);simp only [List.take_succ_cons,List.sum_cons];omega
theorem Qfp (row:List Qam){a b:Nat}(h:a≤b):Qda (row.take a)≤Qda (row.take b):=by
 unfold Qda;rw [List.map_take,List.map_take];exact Qkp _ h
theorem Qfm (gs:List (List Qam)) {a b:Nat} (h:a≤b):Qbf (gs.take a)≤Qbf (gs.take b):=by
 unfold Qbf;rw [List.map_take,List.map_take];exact Qkp _ h
theorem Qeh (row:List Qam)(a:Nat):Qda (row.take a)≤Qda row:=by
 have:=Qfp row (a:=a) (b:=max a row.length) (by omega);rw [List.take_of_length_le (l:=row) (i:=max a row.length) (by omega)] at this;exact this
theorem Qdi (gs:List (List Qam)) (a:Nat):Qbf (gs.take a)≤Qbf gs:=by
 have:=Qfm gs (a:=a) (b:=max a gs.length) (by omega);rw [List.take_of_length_le (l:=gs) (i:=max a gs.length) (by omega)] at this;exact this
def Qgk (gs:List (List Qam)) (row:List Qam) (i c:Nat) (x:Qam) (a b:Nat):Nat:=Qbf (gs.take i)+Qda (row.take c)+(a*x.2.length+b)
theorem Qrg {gs:List (List Qam)} {row:List Qam} {i c a b:Nat} {x:Qam} (hx:row[c]?=some x) (ha:a<x.1.length) (hb:b<x.2.length):Qgk gs row i c x a b<Qbf (gs.take i)+Qda (row.take (c+1)):=by
 unfold Qgk;rw [Qbl hx]
 have:a*x.2.length+b<szG x:=by
  unfold szG;have h1:(a+1)*x.2.length≤x.1.length*x.2.length:=Nat.mul_le_mul_right _ ha;rw [Nat.add_mul,Nat.one_mul] at h1;omega
 omega
theorem Qje {gs:List (List Qam)} {row:List Qam} {i c a b:Nat} {x:Qam} (hr:gs[i]?=some row) (hx:row[c]?=some x) (ha:a<x.1.length) (hb:b<x.2.length):Qgk gs row i c x a b<Qbf (gs.take (i+1)):=by
 have h:=Qrg (gs:=gs) (i:=i) hx ha hb;have h2:=Qeh row (c+1);rw [Qbr hr];omega
end Go.Proofs.YthoagdpakddbdaaGreatDoor
namespace Go.Proofs.YthoagdpakddbdaaGreatDoor
open Go.RowKit Go.Proofs.Tryz
def frst (gs:List (List Qam)) (row:List Qam) (i q:Nat) (y:Qam) (k:Nat):Int:=if y.2.length=0 then -1 else ((Qgk gs row i q y k 0:Nat):Int)
structure SpI (N:Qaj) (lb:List Int) (gs:List (List Qam)) (i:Nat) (kq:List Nat) (Done:Nat→Nat→Prop) (pl:List Nat) (spots:List (Int×Nat)) (f:Nat→Option Nat):Prop where
 len:spots.length=pl.length
 snd:∀ (p a:Nat),pl[p]?=some a→∃ t q y k,kq[t]?=some q∧(gateRow N.ar lb)[q]?=some y∧y.1[k]?=some (a:Int)∧Done t k∧spots[p]?=some (frst gs (gateRow N.ar lb) i q y k,t)
 all:∀ (t q:Nat) (y:Qam) (k a:Nat),Done t k→kq[t]?=some q→(gateRow N.ar lb)[q]?=some y→y.1[k]?=some (a:Int)→∃ p:Nat,pl[p]?=some a
 map:∀ b p,f b=some p↔pl[p]?=some b
section
variable {N:Qaj} {lb:List Int} {gs:List (List Qam)} {i:Nat} {kq:List Nat} {Done:Nat→Nat→Prop} {pl:List Nat} {spots:List (Int×Nat)} {f:Nat→Option Nat}
theorem SpI.new (N:Qaj)(lb:List Int) (gs:List (List Qam)) (i:Nat) (kq:List Nat):SpI N lb gs i kq (fun _ _=>False) [] [] (fun _=>none) :=
 ⟨rfl,fun p a h=>by simp at h,fun t q y k a h=>h.elim,fun b p=>by simp⟩
theorem SpI.gone {D':Nat→Nat→Prop}(h:SpI N lb gs i kq Done pl spots f)(hd:∀ t k,Done t k→D' t k) (hd':∀ (t q:Nat) (y:Qam) (k a:Nat),D' t k→kq[t]?=some q→(gateRow N.ar lb)[q]?=some y→y.1[k]?=some (a:Int)→Done t k):SpI N lb gs i kq D' pl spots f :=
 ⟨h.len,fun p a hp=>by
  obtain ⟨t,q,y,k,h1,h2,h3,h4,h5⟩:=h.snd p a hp;exact ⟨t,q,y,k,h1,h2,h3,hd t k h4,h5⟩,fun t q y k a h1 h2 h3 h4=>h.all t q y k a (hd' t q y k a h1 h2 h3 h4) h2 h3 h4,h.map⟩
theorem SpI.free (h:SpI N lb gs i kq Done pl spots f)(hnd:kq.Nodup){t q k a:Nat}{y:Qam} (h1:kq[t]?=some q) (h2:(gateRow N.ar lb)[q]?=some y) (h3:y.1[k]?=some (a:Int)) (hno:¬Done t k):f a=none:=by
 cases hf:f a with
 | none=>rfl
 | some p =>
  obtain ⟨t',q',y',k',g1,g2,g3,g4,_⟩:=h.snd p a ((h.map a p).1 hf);obtain ⟨z,hz,_,e1⟩:=(Qeb h2).1 (Zm h3);obtain ⟨z',hz',_,e2⟩:=(Qeb g2).1 (Zm g3);rw [hz] at hz'
  cases hz'
  have hq:q'=q:=by omega
  subst hq;rw [h2] at g2
  cases g2
  have ht:t'=t:=(List.getElem?_inj (Zs g1).1 hnd).1 (g1.trans h1.symm);subst ht;have hk:=Qmq (Qiq h2) g3 h3;subst hk;exact absurd g4 hno
theorem SpI.push (h:SpI N lb gs i kq Done pl spots f){t q k a:Nat}{y:Qam} (h1:kq[t]?=some q) (h2:(gateRow N.ar lb)[q]?=some y) (h3:y.1[k]?=some (a:Int)) (hf:f a=none) :
 SpI N lb gs i kq (fun t' k'=>Done t' k'∨(t'=t∧k'=k)) (pl ++[a]) (spots ++[(frst gs (gateRow N.ar lb) i q y k,t)]) (fun b=>if b=a then some pl.length else f b):=by
 have hl:=h.len;refine ⟨by simp [hl],fun p b hp=>?_,fun t' q' y' k' b hd e1 e2 e3=>?_,fun b p=>?_⟩
 · rcases Nat.lt_or_ge p pl.length with hlt|hge
   · rw [List.getElem?_append_left hlt] at hp
     obtain ⟨t',q',y',k',g1,g2,g3,g4,g5⟩:=h.snd p b hp;exact ⟨t',q',y',k',g1,g2,g3,.inl g4,by rw [List.getElem?_append_left (by omega)];exact g5⟩
   · rw [List.getElem?_append_right hge] at hp
     have h0:p-pl.length=0:=by have:=(Zs hp).1;simpa using this
     rw [h0] at hp
     cases hp
     refine ⟨t,q,y,k,h1,h2,h3,.inr ⟨rfl,rfl⟩,?_⟩;rw [List.getElem?_append_right (by omega),show p-spots.length=0 by omega]
     rfl
 · rcases hd with hd|⟨rfl,rfl⟩
   · obtain ⟨p,hp⟩:=h.all t' q' y' k' b hd e1 e2 e3
     exact ⟨p,by rw [List.getElem?_append_left (Zs hp).1];exact hp⟩
   · rw [h1] at e1
     cases e1
     rw [h2] at e2
     cases e2
     rw [h3] at e3;have:a=b:=by have:=Option.some.inj e3;omega
     subst this;exact ⟨pl.length,by rw [List.getElem?_append_right (Zn _),Nat.sub_self];rfl⟩
 · by_cases e:b=a
   · subst e
     simp only [if_pos]
     constructor
     · intro e2;injection e2 with e2;subst e2;rw [List.getElem?_append_right (Zn _),Nat.sub_self];rfl
     · intro e2
       rcases Nat.lt_or_ge p pl.length with hlt|hge
       · rw [List.getElem?_append_left hlt] at e2
         have:=(h.map b p).2 e2;rw [hf] at this
         cases this
       · rw [List.getElem?_append_right hge] at e2
         have h0:p-pl.length=0:=by have:=(Zs e2).1;simpa using this
         rw [show p=pl.length by omega]
   · simp only [if_neg e]
     rw [h.map]
     rcases Nat.lt_or_ge p pl.length with hlt|hge
     · rw [List.getElem?_append_left hlt]
     · rw [List.getElem?_append_right hge,List.getElem?_eq_none hge]
       constructor
       · intro h;cases h
       · intro h
         have h0:p-pl.length=0:=by have:=(Zs h).1;simpa using this
         rw [h0] at h
         injection h with h
         exact absurd h.symm e
theorem SpI.nodup (h:SpI N lb gs i kq Done pl spots f):pl.Nodup:=by
 rw [List.Nodup,List.pairwise_iff_getElem];intro i j hi hj hij e;have h1:=(h.map (pl[i]) i).2 (Zg hi);have h2:=(h.map (pl[i]) j).2 (by rw [Zg hj,e]);rw [h1] at h2
 injection h2 with h2
 omega
theorem SpI.le (h:SpI N lb gs i kq Done pl spots f):pl.length≤N.ar.length :=
 Qjh N.ar.length pl h.nodup (fun a ha=>by
  obtain ⟨p,hp⟩:=List.getElem?_of_mem ha;obtain ⟨t,q,y,k,_,h2,h3,_,_⟩:=h.snd p a hp;obtain ⟨z,hz,_⟩:=(Qeb h2).1 (Zm h3);exact (Zs hz).1)
end
def Qnh (N:Qaj)(x:Qam)(f:Nat→Option Nat)(m:Nat):Stp :=
 if 0≤plI x.2 (m:Int) then (0,plI x.2 (m:Int),0) else ((f m).getD 0,plI x.2 (m:Int),if (f m).isSome then wV N m else 1152921504606846976)
structure LstI (N:Qaj) (lb:List Int) (x:Qam) (kq:List Nat) (f:Nat→Option Nat) (LL:Nat→List Stp):Prop where
 len:∀ (t q:Nat) (y:Qam),kq[t]?=some q→(gateRow N.ar lb)[q]?=some y→(LL t).length=y.2.length
 at_:∀ (t q:Nat) (y:Qam) (j m:Nat),kq[t]?=some q→(gateRow N.ar lb)[q]?=some y→y.2[j]?=some (m:Int)→(LL t)[j]?=some (Qnh N x f m)
theorem Qed {N:Qaj}{l:List Int}{c:Nat}{x:Qam} (hx:(gateRow N.ar l)[c]?=some x) {j:Nat} {z:Int} (h:x.2[j]?=some z):∃ m:Nat,z=(m:Int):=by
 obtain ⟨⟨a,t,e,_⟩,_⟩:=(fun h:z∈Qao N.ar l∧_=>(⟨Qfn.1 h.1,h.2⟩:_∧_)) ((Qpp hx).1 (Zm h));exact ⟨a,e⟩
theorem Qew {N:Qaj}{l:List Int}{c:Nat}{x:Qam} (hx:(gateRow N.ar l)[c]?=some x) {j:Nat} {z:Int} (h:x.1[j]?=some z):∃ m:Nat,z=(m:Int):=by
 obtain ⟨⟨a,t,e,_⟩,_⟩:=(fun h:z∈Qao N.ar l∧_=>(⟨Qfn.1 h.1,h.2⟩:_∧_)) ((Qke hx).1 (Zm h));exact ⟨a,e⟩
theorem Qrs.of {N:Qaj}(hok:Qau N) {ls:List (List Int)} {l lb:List Int} {i c:Nat} {x:Qam} {kq pl:List Nat} {spots:List (Int×Nat)} {f:Nat→Option Nat} {LL:Nat→List Stp} {costs:List Int} (hP:Qcg N.vs.length ls) (hl:ls[i+1]?=some l) (hb:ls[i]?=some lb)
 (hx:(gateRow N.ar l)[c]?=some x) (hkq:nis kq=Qcv l lb (c:Int) N.vs.length) (hS:SpI N lb (gatesOf N.ar ls) i kq (fun _ _=>True) pl spots f) (hL:LstI N lb x kq f LL)
 (hE:∀ (q:Nat) (y:Qam) (a b s t:Nat),(gateRow N.ar lb)[q]?=some y→y.1[a]?=some (s:Int)→y.2[b]?=some (t:Int)→Qhr N (Qef lb q) s t (costs.getD (Qgk (gatesOf N.ar ls) (gateRow N.ar lb) i q y a b) 0)) :
 Qrs N l lb c x pl (Qqy costs spots LL):=by
 have hLv:=hP.lvl l (Zm hl);have hBv:=hP.lvl lb (Zm hb);have hmem:∀ q:Nat,q∈kq↔∃ v:Nat,l[v]?=some (c:Int)∧lb[v]?=some (q:Int):=fun q=>by rw [Qpw hkq,Qif hLv.len hBv.len]
 have hnest:=hP.nest i lb l hb hl
 have hin:∀ (q a:Nat) (z:Tri),q∈kq→N.ar[a]?=some z→Qaf lb z.2.1=(q:Int)→Qaf l z.2.1=c:=fun q a z hq hz e=>by
  obtain ⟨v,h1,h2⟩:=(hmem q).1 hq;have hvn:=(Zs h1).1;rw [hLv.len] at hvn;have ho:=hok.arcs z (Zm hz);have o0:=ho.g0;have o1:=ho.g1;obtain ⟨u,hu⟩:∃ u:Nat,z.2.1=(u:Int):=⟨z.2.1.toNat,by omega⟩;rw [hu] at e ⊢;have e2:=Qbk h2;have e3:=Qbk h1
  apply Classical.byContradiction
  intro hne;exact Qgy (u:=u) (v:=v) hnest hLv.len hBv.len (by omega) hvn (by rw [e3];exact hne) (by rw [e,e2])
 have hat:∀ a∈pl,Qep N l lb c a:=fun a ha=>by
  obtain ⟨p,hp⟩:=List.getElem?_of_mem ha;obtain ⟨t,q,y,k,h1,h2,h3,_,_⟩:=hS.snd p a hp;obtain ⟨z,hz,k1,k2⟩:=(Qeb h2).1 (Zm h3);exact ⟨z,hz,by rw [k2];exact k1,hin q a z (Zm h1) hz k2⟩
 have hall:∀ a,Qep N l lb c a→∃ p:Nat,pl[p]?=some a:=fun a ⟨z,hz,k1,k2⟩=>by
  have ho:=hok.arcs z (Zm hz);have o0:=ho.g0;have o1:=ho.g1;obtain ⟨u,hu⟩:∃ u:Nat,z.2.1=(u:Int):=⟨z.2.1.toNat,by omega⟩;have e1:=Qdd (l:=lb) (v:=u) (by rw [hBv.len];omega);have e2:=Qdd (l:=l) (v:=u) (by rw [hLv.len];omega);obtain ⟨q,hq,y,hy⟩:=Qih (ar:=N.ar) hBv (Zm e1);rw [hu] at k1 k2;rw [k2] at e2;rw [hq] at e1;obtain ⟨t,ht⟩:=List.getElem?_of_mem ((hmem q).2 ⟨u,e2,e1⟩);have ha:(a:Int)∈y.1:=(Qeb hy).2 ⟨z,hz,by rw [←hq];exact k1,by rw [hu];exact hq⟩;obtain ⟨k,hk⟩:=List.getElem?_of_mem ha;exact hS.all t q y k a trivial ht hy hk
 have hrawAt:∀ (p a:Nat),pl[p]?=some a→∃ (t q:Nat) (y:Qam) (k:Nat) (z:Tri),kq[t]?=some q∧(gateRow N.ar lb)[q]?=some y∧y.1[k]?=some (a:Int)∧N.ar[a]?=some z∧Qaf lb z.1≠Qaf lb z.2.1∧Qaf lb z.2.1=(q:Int)∧Qqy costs spots LL p=Qfd costs (frst (gatesOf N.ar ls) (gateRow N.ar lb) i q y k).toNat (LL t):=fun p a hp=>by
  obtain ⟨t,q,y,k,h1,h2,h3,_,h5⟩:=hS.snd p a hp;obtain ⟨z,hz,k1,k2⟩:=(Qeb h2).1 (Zm h3);exact ⟨t,q,y,k,z,h1,h2,h3,hz,by rw [k2];exact k1,k2,Qrr h5⟩
 have hfr:∀ (q:Nat) (y:Qam) (k j:Nat) (z:Int),y.2[j]?=some z→(frst (gatesOf N.ar ls) (gateRow N.ar lb) i q y k).toNat+j=Qgk (gatesOf N.ar ls) (gateRow N.ar lb) i q y k j:=fun q y k j z hz=>by
  have hj:=(Zs hz).1;unfold frst;rw [if_neg (by omega),Int.toNat_natCast];unfold Qgk;omega
 have hsome:∀ (q m:Nat) (z:Tri),q∈kq→N.ar[m]?=some z→Qaf lb z.1=(q:Int)→Qaf lb z.2.1≠(q:Int)→(m:Int) ∉ x.2→∃ p,f m=some p:=fun q m z hq hz e1 e2 hm=>by
  have hto:Qaf l z.2.1=c:=by
   apply Classical.byContradiction
   intro hne;refine hm ((Qcn hx).2 ⟨z,hz,?_,hne⟩);obtain ⟨v,g1,g2⟩:=(hmem q).1 hq;have hvn:=(Zs g1).1;rw [hLv.len] at hvn;have ho:=hok.arcs z (Zm hz);have o0:=ho.f0;have o1:=ho.f1;obtain ⟨u,hu⟩:∃ u:Nat,z.1=(u:Int):=⟨z.1.toNat,by omega⟩;rw [hu] at e1 ⊢;have e3:=Qbk g2;have e4:=Qbk g1
   apply Classical.byContradiction
   intro hne2;exact Qgy (u:=u) (v:=v) hnest hLv.len hBv.len (by omega) hvn (by rw [e4];exact hne2) (by rw [e1,e3])
  obtain ⟨p,hp⟩:=hall m ⟨z,hz,fun e=>e2 (by rw [←e];exact e1),hto⟩;exact ⟨p,(hS.map m p).2 hp⟩
 refine ⟨hat,hall,hS.nodup,fun p a hp s hs=>?_,fun p a m v k hp hK hv hk=>?_,fun p a m v hp hK hv hm hw=>?_⟩
 · obtain ⟨t,q,y,k,z,h1,h2,h3,hz,k1,k2,hL'⟩:=hrawAt p a hp
   rw [hL'] at hs;obtain ⟨j,r,hj,hc1,hc2,rfl⟩:=(Qhh costs).1 hs;obtain ⟨zm,hzm⟩:∃ zm,y.2[j]?=some zm:=⟨_,Zg (by rw [←hL.len t q y h1 h2];exact (Zs hj).1)⟩;obtain ⟨m,rfl⟩:=Qed h2 hzm;have hr:=hL.at_ t q y j m h1 h2 hzm;rw [hj] at hr
   cases hr
   rw [hfr q y k j _ hzm] at hc1 ⊢;have hEE:=hE q y k j a m h2 h3 hzm;obtain ⟨zz,hzz,j1,j2⟩:=(Qcn h2).1 (Zm hzm);refine ⟨m,_,⟨z,zz,hz,hzz,k1,by rw [k2];exact j1,by rw [k2];exact j2,by rw [k2];exact hEE⟩,by omega,?_⟩
   by_cases hm:(m:Int)∈x.2
   · obtain ⟨k',e1,e2⟩:=Qnm hm
     left
     refine ⟨k',e2,?_,?_⟩
     · unfold Qnh;rw [e1,if_pos (by omega)]
     · unfold Qnh;rw [e1,if_pos (by omega)];simp
   · right
     obtain ⟨p',hp'⟩:=hsome q m zz (Zm h1) hzz j1 j2 hm;have e0:Qnh N x f m=(p',-1,wV N m):=by unfold Qnh;rw [Qdf hm,if_neg (by omega),hp'];rfl
     rw [e0] at hc2 ⊢;exact ⟨hm,by simp only at hc2;omega,(by decide:(-1:Int)<0),(hS.map m p').1 hp',by simp only;omega⟩
 · obtain ⟨t,q,y,k',z,h1,h2,h3,hz,k1,k2,hL'⟩:=hrawAt p a hp
   obtain ⟨z',zm,hz',hzm,j1,j2,j3,j4⟩:=hK;rw [hz] at hz'
   cases hz'
   rw [k2] at j2 j3 j4;obtain ⟨j,hj⟩:=List.getElem?_of_mem ((Qcn h2).2 ⟨zm,hzm,j2,j3⟩);have hEE:=hE q y k' j a m h2 h3 hj;have hv':=Lst.uniq j4 hEE;have hb:=j4.bd hok;have e0:Qnh N x f m=(0,(k:Int),0):=by unfold Qnh;rw [Qfu (Qfq hx) hk,if_pos (by omega)]
   refine ⟨(0,(k:Int),v),?_,rfl,rfl⟩;rw [hL'];refine (Qhh costs).2 ⟨j,_,hL.at_ t q y j m h1 h2 hj,?_,?_,?_⟩
   · rw [hfr q y k' j _ hj,←hv'];omega
   · rw [e0];simp only;omega
   · rw [e0,hfr q y k' j _ hj,←hv'];simp
 · obtain ⟨t,q,y,k',z,h1,h2,h3,hz,k1,k2,hL'⟩:=hrawAt p a hp
   obtain ⟨z',zm,hz',hzm,j1,j2,j3,j4⟩:=hK;rw [hz] at hz'
   cases hz'
   rw [k2] at j2 j3 j4;obtain ⟨j,hj⟩:=List.getElem?_of_mem ((Qcn h2).2 ⟨zm,hzm,j2,j3⟩);have hEE:=hE q y k' j a m h2 h3 hj;have hv':=Lst.uniq j4 hEE;have hb:=j4.bd hok;obtain ⟨p',hp'⟩:=hsome q m zm (Zm h1) hzm j2 j3 hm;have e0:Qnh N x f m=(p',-1,wV N m):=by unfold Qnh;rw [Qdf hm,if_neg (by omega),hp'];rfl
   have hwb:=(Qim (hok.arcs zm (Zm hzm)).w).resolve_left (by rw [←(Qcy hzm).2.2];exact hw);rw [←(Qcy hzm).2.2] at hwb;refine ⟨(p',-1,wV N m+v),?_,(by decide:(-1:Int)<0),(hS.map m p').1 hp',by simp only;omega⟩;rw [hL'];refine (Qhh costs).2 ⟨j,_,hL.at_ t q y j m h1 h2 hj,?_,?_,?_⟩
   · rw [hfr q y k' j _ hj,←hv'];omega
   · rw [e0];simp only;omega
   · rw [e0,hfr q y k' j _ hj,←hv']
end Go.Proofs.YthoagdpakddbdaaGreatDoor
namespace Go.Proofs.YthoagdpakddbdaaGreatDoor
open Go.RowKit Go.Maps Go.Proofs.Tryz
theorem Qqb:Keyed prog 3:=int_keyed underlying3
theorem Qsg (w:World):(zeroValue 3).run prog w=.ok (.int .i64 0) w:=by kernel_rfl
def MpI (W:World)(b n:Nat)(f:Nat→Option Nat):Prop :=
 ∃ D:DataW Unit,W.ownsMap prog 3 (plainElem prog 3) b n D∧IsMap D∧∀ k:Nat,k≤1000000000000→Maps.has D (.int .i64 k)=(f k).isSome∧∀ v,f k=some v→∀ z,D.atKey (.int .i64 k) z=.lit (.int .i64 v)
theorem MpI.new (w:World):MpI (w.alloc (.map #[] 0)) w.heap.size 0 (fun _=>none) :=
 ⟨.map [],World.ownsMap_made _ _ _ _,isMap_empty,fun k _=>⟨rfl,fun v h=>by cases h⟩⟩
theorem MpI.new' (w:World){g:Nat}(h:g=w.heap.size):MpI (w.alloc (.map #[] 0)) g 0 (fun _=>none):=by subst h;exact MpI.new w
theorem MpI.lt {W:World}{b n:Nat}{f:Nat→Option Nat}(h:MpI W b n f):b<W.heap.size:=by
 obtain ⟨D,h1,_⟩:=h;exact h1.lt
theorem MpI.grown {W W':World}{b n:Nat}{f:Nat→Option Nat}{r:Option Nat}(h:MpI W b n f)(hg:W.grownBy W' r)(hr:r≠some b):MpI W' b n f:=by
 obtain ⟨D,h1,h2⟩:=h;exact ⟨D,h1.kept hg (fun e=>hr e.symm),h2⟩
theorem MpI.below {W W':World}{b n:Nat}{f:Nat→Option Nat}(h:MpI W b n f)(hb:Below W.heap.size W W'):MpI W' b n f:=h.grown ⟨hb.os,hb.tape,hb.output,hb.size,fun k hk _=>hb.block k hk⟩ (r:=none) (by simp)
theorem MpI.set {W:World}{b n g i:Nat}{f:Nat→Option Nat}(h:MpI W b n f)(hg:g≠b)(v:Value):MpI (W.setCell ⟨g,i,none⟩ v) b n f:=h.grown (Qaa _ _ _ _) (fun e=>hg (by injection e))
theorem lit_ne {k q:Nat}(h:q≠k):(Lit.int .i64 (q:Int))≠Lit.int .i64 (k:Int):=fun e=>by
 injection e with _ e
 exact h (by omega)
theorem Qqu {k:Nat}(hk:k≤1000000000000):keyOf prog 3 (.int .i64 (k:Int))=some (.int .i64 (k:Int)):=keyOf_int_mk underlying3 (WalkArith.wf_i64 (by omega))
section
variable {w:World} {ops:Array Oper} {rest:List Oper} {o:Oper} {a:Act} {Q:Exit→Act→World→Prop} {b n:Nat} {f:Nat→Option Nat}
theorem Qjl (hg:o.guard=none)(m x v:Operand)(hop:o.op=Op.mapUpdate 235 m x v)(k u:Nat) (hm:a.eval m=.map (some b)) (h:MpI w b n f) (hn:n≤1000000000) (hx:a.eval x=.int .i64 k) (hv:a.eval v=.int .i64 u) (hk:k≤1000000000000) (hu:u≤1000000000000)
 (hK:∀ w',MpI w' b (n+1) (fun q=>if q=k then some u else f q)→w.grownBy w' (some b)→wpList prog ops Q rest (a.put o.dst undef) w'):wpList prog ops Q (o::rest) a w:=by
 obtain ⟨D,h1,h2,h3⟩:=h;refine wpList_mapUpdate_own w hg m x v 235 hop 3 3 Qqb underlying235 _ b n D hm h1 (by unfold maxLen;omega) _ _ _ hx hv (Qqu hk) _ [] (plainElem_int underlying3 (WalkArith.wf_i64 (by omega))) (fun w' g1 g2=>hK w' ⟨_,g1,h2.put _ _,fun q hq=>?_⟩ g2);have hkl:WideAt.IsKeyLit (Lit.int .i64 (k:Int)):=by simp [WideAt.IsKeyLit]
 by_cases e:q=k
 · subst e
   simp only [if_pos];exact ⟨has_put_same h2 hkl _,fun v e z=>by cases e;exact atKey_put_same h2 hkl _ _⟩
 · simp only [if_neg e]
   refine ⟨(has_put_other (lit_ne e) _).trans (h3 q hq).1,fun v e2 z=>(atKey_put_other (lit_ne e) _ _).trans ((h3 q hq).2 v e2 z)⟩
theorem Qjf (hg:o.guard=none)(m x:Operand)(hop:o.op=Op.lookup 235 m x true)(k:Nat) (hm:a.eval m=.map (some b)) (h:MpI w b n f) (hx:a.eval x=.int .i64 k) (hk:k≤1000000000000)
 (hK:wpList prog ops Q rest (a.put o.dst (.tuple #[.int .i64 (((f k).getD 0:Nat):Int),.bool (f k).isSome])) w):wpList prog ops Q (o::rest) a w:=by
 obtain ⟨D,h1,h2,h3⟩:=h;refine wpList_lookup_own_ok_int w hg m x 235 hop 3 3 .i64 Qqb underlying235 underlying3 (Qsg w) b n D hm h1 _ _ hx (Qqu hk) (fun c hc _=>?_);obtain ⟨g1,g2⟩:=h3 k hk;rw [g1]
 have:c=(((f k).getD 0:Nat):Int):=by
  cases hf:f k with
  | none =>
   rw [hf] at g1;rw [atKey_of_not_has g1] at hc
   injection hc with hc
   injection hc with _ hc
   exact hc.symm
  | some v =>
   rw [g2 v hf] at hc
   injection hc with hc
   injection hc with _ hc
   exact hc.symm
 rw [this];exact hK
theorem wpMap_at (hg:o.guard=none)(m x:Operand)(hop:o.op=Op.lookup 235 m x false)(k v:Nat) (hm:a.eval m=.map (some b)) (h:MpI w b n f) (hx:a.eval x=.int .i64 k) (hk:k≤1000000000000) (hf:f k=some v)
 (hK:wpList prog ops Q rest (a.put o.dst (.int .i64 (v:Int))) w):wpList prog ops Q (o::rest) a w:=by
 obtain ⟨D,h1,h2,h3⟩:=h;refine wpList_lookup_own_int w hg m x 235 hop 3 3 .i64 Qqb underlying235 underlying3 (Qsg w) b n D hm h1 _ _ hx (Qqu hk) (fun c hc _=>?_);rw [(h3 k hk).2 v hf] at hc
 injection hc with hc
 injection hc with _ hc
 rw [←hc];exact hK
end
end Go.Proofs.YthoagdpakddbdaaGreatDoor
namespace Go.Proofs.YthoagdpakddbdaaGreatDoor
open Go.RowKit Go.Proofs.Tryz
attribute [local go_sem ↓] Go.wp_at_zero Go.wp_at_succ
def Qbm:Qaj:=⟨[(0,0,1),(10,0,2),(5,8,0)],[(0,1,10),(1,2,20),(2,0,30),(1,0,40)],[⟨1,1,[2]⟩,⟨2,1,[0,1152921504606846976]⟩,⟨1,2,[1,5]⟩]⟩
def Qin:List (List Int):=[[0,0,1],[0,0,0]]
theorem Qsd:Qau Qbm:=by
 refine ⟨by decide,by decide,by decide,?_,?_,?_,?_⟩
 · intro t ht
   simp only [Qbm,List.mem_cons,List.not_mem_nil,or_false] at ht
   rcases ht with rfl|rfl|rfl <;> exact ⟨by decide,by decide,by decide,by decide,by decide,by decide⟩
 · intro t ht
   simp only [Qbm,List.mem_cons,List.not_mem_nil,or_false] at ht
   rcases ht with rfl|rfl|rfl <;> exact ⟨by decide,by decide,by decide,by decide⟩
 · intro t ht
   simp only [Qbm,List.mem_cons,List.not_mem_nil,or_false] at ht
   rcases ht with rfl|rfl|rfl|rfl <;> exact ⟨by decide,by decide,by decide,by decide,by decide⟩
 · intro i v t hv ht
   have hi:i<3:=(Zs hv).1
   rcases (by omega:i=0∨i=1∨i=2) with rfl|rfl|rfl
   all_goals
    simp only [Qbm,List.getElem?_cons_zero,List.getElem?_cons_succ,Option.some.injEq] at hv;subst hv
    revert ht
    simp only [Qbm,show (1:Int).toNat=1 from rfl,show (2:Int).toNat=2 from rfl,show (0:Int).toNat=0 from rfl,List.getElem?_cons_zero,List.getElem?_cons_succ,Option.some.injEq]
    rintro rfl;exact ⟨by decide,by decide⟩
theorem twoL_ok:Qcg 3 Qin:=by
 refine ⟨by decide,by decide,?_,?_⟩
 · intro l hl
   simp only [Qin,List.mem_cons,List.not_mem_nil,or_false] at hl
   rcases hl with rfl|rfl
   · refine ⟨by decide,by decide,by decide,?_⟩
     intro c hc;have hm:Qai [0,0,1]=2:=by decide
     rw [hm] at hc
     rcases (by omega:c=0∨c=1) with rfl|rfl <;> decide
   · refine ⟨by decide,by decide,by decide,?_⟩
     intro c hc;have hm:Qai [0,0,0]=1:=by decide
     rw [hm] at hc;obtain rfl:c=0:=by omega
     decide
 · intro i p l hp hl
   have hi:i+1<2:=(Zs hl).1
   obtain rfl:i=0:=by omega
   simp only [Qin,List.getElem?_cons_zero,List.getElem?_cons_succ,Option.some.injEq] at hp hl;subst hp hl;intro a b x y u v _ _ hu hv _
   have h0:∀ {k:Nat} {z:Int},([0,0,0]:List Int)[k]?=some z→z=0:=by
    intro k z hz;have hk:k<3:=(Zs hz).1
    rcases (by omega:k=0∨k=1∨k=2) with rfl|rfl|rfl <;> simpa using hz.symm
   rw [h0 hu,h0 hv];exact Int.le_refl _
theorem RdI.lit {w:World}{g:Nat}{t:TypeId}(l:List Int) (h:Blk w g t (Qad l).toArray):RdI w (some ⟨g,0,none⟩) l.length l:=by
 refine ⟨rfl,fun i x hx=>⟨g,0,rfl,?_⟩⟩;rw [h.cell];simp [Qad,hx]
theorem two_fact {w:World}{g1 g2 g3:Nat}{t s:TypeId} (h1:Blk w g1 t (Qad [0,0,1]).toArray) (h2:Blk w g2 t (Qad [0,0,0]).toArray) (h3:Blk w g3 s #[.slice (some ⟨g1,0,none⟩) 3 3,.slice (some ⟨g2,0,none⟩) 3 3]):RdT w (some ⟨g3,0,none⟩) 2 Qin:=by
 refine ⟨rfl,fun i l hl=>?_⟩;have hi:i<2:=(Zs hl).1
 rcases (by omega:i=0∨i=1) with rfl|rfl
 · simp only [Qin,List.getElem?_cons_zero,Option.some.injEq] at hl
   subst hl;exact ⟨g3,0,some ⟨g1,0,none⟩,3,3,rfl,Zq h3,RdI.lit _ h1,by omega,by omega⟩
 · simp only [Qin,List.getElem?_cons_zero,List.getElem?_cons_succ,Option.some.injEq] at hl
   subst hl;exact ⟨g3,0,some ⟨g2,0,none⟩,3,3,rfl,Zq h3,RdI.lit _ h2,by omega,by omega⟩
theorem Rd3.lit {w:World}{g:Nat}{t:TypeId}(l:List Tri) (h:Blk w g t (Qat l).toArray):Rd3 w (some ⟨g,0,none⟩) l.length l:=by
 refine Rds.rd3 ⟨Qgf l,fun i x hx=>⟨g,0,rfl,?_⟩⟩;rw [h.cell]
 simpa using hx
theorem Qyc {w:World}{g1 g2 g3 g4 g5 g6:Nat}{t a b c:TypeId} (h1:Blk w g1 t (Qad [2]).toArray) (h2:Blk w g2 t (Qad [0,1152921504606846976]).toArray) (h3:Blk w g3 t (Qad [1,5]).toArray)
 (h4:Blk w g4 a (Qat Qbm.vs).toArray) (h5:Blk w g5 b (Qat Qbm.ar).toArray)
 (h6:Blk w g6 c #[.int .i64 1,.int .i64 1,.slice (some ⟨g1,0,none⟩) 1 1,.int .i64 2,.int .i64 1,.slice (some ⟨g2,0,none⟩) 2 2,.int .i64 1,.int .i64 2,.slice (some ⟨g3,0,none⟩) 2 2]):Qbo w (some ⟨g4,0,none⟩) (some ⟨g5,0,none⟩) (some ⟨g6,0,none⟩) 3 4 3 Qbm:=by
 refine ⟨Rd3.lit _ h4,Rd3.lit _ h5,rfl,fun i x hx=>?_⟩;have hi:i<3:=(Zs hx).1
 rcases (by omega:i=0∨i=1∨i=2) with rfl|rfl|rfl
 · simp only [Qbm,List.getElem?_cons_zero,Option.some.injEq] at hx
   subst hx;exact ⟨g6,0,rfl,Zq h6,Zq h6,some ⟨g1,0,none⟩,1,1,Zq h6,RdI.lit _ h1,by omega⟩
 · simp only [Qbm,List.getElem?_cons_zero,List.getElem?_cons_succ,Option.some.injEq] at hx
   subst hx;exact ⟨g6,0,rfl,Zq h6,Zq h6,some ⟨g2,0,none⟩,2,2,Zq h6,RdI.lit _ h2,by omega⟩
 · simp only [Qbm,List.getElem?_cons_zero,List.getElem?_cons_succ,Option.some.injEq] at hx
   subst hx;exact ⟨g6,0,rfl,Zq h6,Zq h6,some ⟨g3,0,none⟩,2,2,Zq h6,RdI.lit _ h3,by omega⟩
theorem Qdg {P:Program}{f:Func}{Q:Ending→World→Prop}{x:Exit}{a:Act}{w:World}(h:∀ W,W=w→bodyPost P f Q x a W):bodyPost P f Q x a w:=h w rfl
end Go.Proofs.YthoagdpakddbdaaGreatDoor
