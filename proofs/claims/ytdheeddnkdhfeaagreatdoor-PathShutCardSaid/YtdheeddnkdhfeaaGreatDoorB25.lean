/- Parts of the proof: ChP, FsA, Yu, Ch1, Ch2, Ch3, Nt9R, Cp. -/
import Derived.Test.YtdheeddnkdhfeaaGreatDoorB20
namespace Go.Proofs.YtdheeddnkdhfeaaGreatDoor
open Go.RowKit Go.Proofs.Tryz
theorem Qlp (f:Tri→Int)(v:Int):∀ (l m:List Tri) (k:Nat),l.map f=m.map f→((l.zipIdx k).filter (fun p=>f p.1 == v)).map (fun p=>(p.2:Int))=((m.zipIdx k).filter (fun p=>f p.1 == v)).map (fun p=>(p.2:Int))
 | [],[],_,_=>rfl
 | [],_::_,_,h=>by simp at h
 | _::_,[],_,h=>by simp at h
 | a::l,b::m,k,h=>by
  simp only [List.map_cons,List.cons.injEq] at h;have ih:=Qlp f v l m (k+1) h.2;simp only [List.zipIdx_cons,List.filter_cons,h.1]
  split
  · simp only [List.map_cons,ih]
  · exact ih
theorem Qes {f:Tri→Int}{l m:List Tri}(h:l.map f=m.map f)(v:Int):idx f l v=idx f m v:=Qlp f v l m 0 h
theorem Qlj {f:Tri→Int}{l m:List Tri}(h:l.map f=m.map f)(n:Nat):Qkh f l n=Qkh f m n:=by
 unfold Qkh;simp only [Qes h]
def Qec (l m:List Tri):Prop:=l.map (·.1)=m.map (·.1)∧l.map (·.2.1)=m.map (·.2.1)
theorem Qec.len {l m:List Tri}(h:Qec l m):l.length=m.length:=by
 have:=congrArg List.length h.1
 simpa using this
theorem Qec.take {l m:List Tri}(h:Qec l m)(k:Nat):Qec (l.take k) (m.take k):=⟨by rw [List.map_take,List.map_take,h.1],by rw [List.map_take,List.map_take,h.2]⟩
theorem Qec.get {l m:List Tri}(h:Qec l m){i:Nat}{a:Tri} (ha:l[i]?=some a):∃ b,m[i]?=some b∧b.1=a.1∧b.2.1=a.2.1:=by
 have hi:=(Zs ha).1;have him:i<m.length:=by rw [←h.len];exact hi
 have hm:m[i]?=some m[i]:=Zg him;have e1:=congrArg (·[i]?) h.1;have e2:=congrArg (·[i]?) h.2;simp only [Yt,ha,hm,Option.map_some,Option.some.injEq] at e1 e2;exact ⟨_,hm,e1.symm,e2.symm⟩
theorem Qec.symm {l m:List Tri}(h:Qec l m):Qec m l:=⟨h.1.symm,h.2.symm⟩
theorem Qfv {l:List Tri}{a:Nat}{x y z:Int} (h:l[a]?=some (x,y,z)) (u:Int):Qec (l.set a (x,y,u)) l:=by
 have hl:=(Zs h).1;refine ⟨?_,?_⟩ <;>
 · apply List.ext_getElem?
   intro i;simp only [Yt]
   by_cases e:a=i
   · subst e
     rw [Yg hl,h]
     rfl
   · rw [Yh e]
theorem Quf {l m:List Tri}(h:Qec l m):plcs l=plcs m:=by
 apply List.ext_getElem?
 intro i
 rcases Nat.lt_or_ge i l.length with hi|hi
 · have ha:l[i]?=some l[i]:=Zg hi
   obtain ⟨b,hb,e1,e2⟩:=h.get ha;rw [Qhc ha,Qhc hb];unfold Qff;rw [Qes (h.take i).2,Qes (h.take i).1,e1,e2]
 · rw [Yd (by rw [Qiw];exact hi),Yd (by rw [Qiw,←h.len];exact hi)]
theorem Qoi {f:Tri→Int}{l m:List Tri}(h:l.map f=m.map f)(v:Int):l.countP (fun a=>f a == v)=m.countP (fun a=>f a == v):=by
 rw [←Qmy,←Qmy,Qes h]
def Qal.setW (N:Qal)(a:Nat)(x y u:Int):Qal:=⟨N.vs,N.ar.set a (x,y,u),N.ts⟩
theorem Qaq.setW {N:Qal}(h:Qaq N){a:Nat}{x y z u:Int} (ha:N.ar[a]?=some (x,y,z)) (hu:wOk u=true):Qaq (N.setW a x y u) where
 lv:=h.lv
 la:=by show (N.ar.set a (x,y,u)).length≤_;rw [Yq];exact h.la
 lt:=h.lt
 tabs:=h.tabs
 verts:=h.verts
 arcs:=fun t ht=>by
  rcases List.mem_or_eq_of_mem_set ht with ht|rfl
  · exact h.arcs t ht
  · have:=h.arcs _ (Zm ha)
    exact ⟨this.f0,this.f1,this.g0,this.g1,hu⟩
 meet:=fun i v t hv ht=>by
  have h1:=h.meet i v t hv ht;have hA:=Qfv ha u;unfold Qwf Qvz at *
  show ((List.countP _ (N.ar.set a (x,y,u)):Nat):Int)=_∧((List.countP _ (N.ar.set a (x,y,u)):Nat):Int)=_
  rw [Qoi hA.2,Qoi hA.1];exact h1
theorem Qih.setW {N:Qal}(h:Qih N)(a:Nat)(x y u:Int):Qih (N.setW a x y u) :=
 ⟨h.v,by show (N.ar.set a (x,y,u)).length≤_;rw [Yq];exact h.a,h.t,h.c⟩
/-! the number of an entry, one by one -/
theorem Qec.getD {l m:List Tri}(h:Qec l m)(i:Nat):(l.getD i (0,0,0)).1=(m.getD i (0,0,0)).1∧(l.getD i (0,0,0)).2.1=(m.getD i (0,0,0)).2.1:=by
 simp only [Ya]
 cases ha:l[i]? with
 | none =>
  have:m[i]?=none:=Yd (by rw [←h.len];exact List.getElem?_eq_none_iff.1 ha);rw [this];exact ⟨rfl,rfl⟩
 | some a =>
  obtain ⟨b,hb,e1,e2⟩:=h.get ha;rw [hb];exact ⟨e1.symm,e2.symm⟩
theorem Qjp (P:Tri→Bool):∀ (l m:List Tri) (k:Nat),l.map P=m.map P→((l.zipIdx k).filter (fun p=>P p.1)).map (fun p=>(p.2:Int))=((m.zipIdx k).filter (fun p=>P p.1)).map (fun p=>(p.2:Int))
 | [],[],_,_=>rfl
 | [],_::_,_,h=>by simp at h
 | _::_,[],_,h=>by simp at h
 | a::l,b::m,k,h=>by
  simp only [List.map_cons,List.cons.injEq] at h;have ih:=Qjp P l m (k+1) h.2;simp only [List.zipIdx_cons,List.filter_cons,h.1]
  split
  · simp only [List.map_cons,ih]
  · exact ih
theorem Qec.cross {l m:List Tri}(h:Qec l m)(c:List Int):Qbg l c=Qbg m c:=by
 refine Qjp (Qgk c) l m 0 ?_
 apply List.ext_getElem?
 intro i;simp only [Yt]
 cases ha:l[i]? with
 | none =>
  have:m[i]?=none:=Yd (by rw [←h.len];exact List.getElem?_eq_none_iff.1 ha);rw [this]
 | some a =>
  obtain ⟨b,hb,e1,e2⟩:=h.get ha;rw [hb];simp only [Option.map_some,Qgk,e1,e2]
theorem Qec.gateRow {l m:List Tri}(h:Qec l m)(c:List Int):gateRow l c=gateRow m c:=by
 have h1:∀ a,toC l c a=toC m c a:=fun a=>by unfold toC;rw [(h.getD a.toNat).2]
 have h2:∀ a,frC l c a=frC m c a:=fun a=>by unfold frC;rw [(h.getD a.toNat).1]
 unfold YtdheeddnkdhfeaaGreatDoor.gateRow;rw [h.cross c];simp only [h1,h2]
theorem Qec.gatesOf {l m:List Tri}(h:Qec l m) (ls:List (List Int)):gatesOf l ls=gatesOf m ls:=by
 unfold YtdheeddnkdhfeaaGreatDoor.gatesOf;refine List.map_congr_left (fun c _=>h.gateRow c)
theorem Qfa.alike {W:World}{o:Nat}{l m:List Tri} {ls:List (List Int)} (h:Qfa W o l ls) (ha:Qec m l):Qfa W o m ls:=by
 obtain ⟨Q,F,T,G,S,L,k,cq,cf,ct,cg,cs,h⟩:=h;have e:=ha.gatesOf ls;exact ⟨Q,F,T,G,S,L,k,cq,cf,ct,cg,cs,h.n0,h.n1,h.n2,h.n3,h.n4,by rw [e];exact h.n5,h.part,by rw [ha.1];exact h.fr,by rw [ha.2];exact h.to,by rw [e];exact h.gates,by rw [e];exact h.starts,h.c0⟩
section
variable {N:Qal} {q:Nat} {x y z u:Int} {s t a b:Nat} {v v' d:Int} {l:List Nat}
theorem Qve (h:N.ar[q]?=some (x,y,z)):Qas (N.setW q x y u) a b=Qas N a b:=by
 have hal:Qec (N.setW q x y u).ar N.ar:=Qfv h u
 have hp:∀ (k:Nat) {c e:Tri},c.1=e.1→c.2.1=e.2.1→Qff (N.setW q x y u).ar k c=Qff N.ar k e:=fun k c e h1 h2=>by
  unfold Qff;rw [Qes (hal.take k).2,Qes (hal.take k).1,h1,h2]
 have hn:∀ {i:Nat},N.ar[i]?=none→(N.setW q x y u).ar[i]?=none:=fun hi=>Yd (by rw [hal.len];exact List.getElem?_eq_none_iff.1 hi)
 unfold Qas
 cases h1:N.ar[a]? with
 | none=>rw [hn h1]
 | some c =>
  obtain ⟨c',e1,q1,q2⟩:=hal.symm.get h1;rw [e1]
  cases h2:N.ar[b]? with
  | none=>rw [hn h2]
  | some e =>
   obtain ⟨e',e2,q3,q4⟩:=hal.symm.get h2;rw [e2];simp only [q2,q3,hp a q1 q2,hp b q3 q4]
   rfl
theorem Qwi (h:N.ar[q]?=some (x,y,z)) {i:Nat} {c:Tri} (hc:(N.setW q x y u).ar[i]?=some c):(i≠q∧N.ar[i]?=some c)∨(i=q∧c=(x,y,u)):=by
 have hc:(N.ar.set q (x,y,u))[i]?=some c:=hc
 by_cases e:q=i
 · subst e
   rw [Yg (Zs h).1] at hc
   cases hc
   exact .inr ⟨rfl,rfl⟩
 · rw [Yh e] at hc
   exact .inl ⟨fun e2=>e e2.symm,hc⟩
theorem Qrx (h:N.ar[q]?=some (x,y,z)) (g:StW (N.setW q x y 1152921504606846976) a b d):StW N a b d∧b≠q:=by
 obtain ⟨c,h1,h2,h3,h4⟩:=g;rw [Qve h] at h2 h4
 rcases Qwi h h1 with ⟨e,h5⟩|⟨e,rfl⟩
 · exact ⟨⟨c,h5,h2,h3,h4⟩,e⟩
 · exact absurd rfl h3
theorem Qrm (h:N.ar[q]?=some (x,y,z)) (g:Rch (StW (N.setW q x y 1152921504606846976)) s t v):Rch (StW N) s t v:=by
 induction g with
 | start=>exact .start
 | step _ h2 ih=>exact ih.step (Qrx h h2).1
theorem row_shut (h:N.ar[q]?=some (x,y,z)) (g:Qdk (StW (N.setW q x y 1152921504606846976)) s t v l):q ∉ l:=fun hq=>by
 obtain ⟨_,_,h1⟩:=g.mem hq;exact (Qrx h h1).2 rfl
theorem wV_shut (h:N.ar[q]?=some (x,y,z)) (hs:s<N.ar.length) (hw:wV (N.setW q x y 1152921504606846976) s≠1152921504606846976):s≠q∧wV N s≠1152921504606846976:=by
 obtain ⟨c,hc⟩:∃ c,(N.setW q x y 1152921504606846976).ar[s]?=some c:=⟨_,Zg (by show s<(N.ar.set q (x,y,1152921504606846976)).length;rw [Yq];exact hs)⟩
 rw [(Qbn hc).2.2] at hw
 rcases Qwi h hc with ⟨e,h5⟩|⟨e,rfl⟩
 · exact ⟨e,by rw [(Qbn h5).2.2];exact hw⟩
 · exact absurd rfl hw
theorem Qxc (hok:Qaq N) (h:N.ar[q]?=some (x,y,z)) (hs:s<N.ar.length) (hd:Qgt N s t v) (hd':Qgt (N.setW q x y 1152921504606846976) s t v'):v≤v'∧(v'≠1152921504606846976→s≠q):=by
 have hb:v≤1152921504606846976:=by
  rcases hd with ⟨_,h2⟩|⟨_,⟨h2,h3⟩|⟨h2,_⟩⟩
  · omega
  · obtain ⟨e,he,hb⟩:=Qqm hok h2
    have:=h3 e he;unfold MB at hb;omega
  · exact Int.le_of_eq h2
 rcases hd' with ⟨h1,h2⟩|⟨h1,⟨h2,h3⟩|⟨h2,_⟩⟩
 · exact ⟨by omega,fun e=>absurd h2 e⟩
 · obtain ⟨e1,e2⟩:=wV_shut h hs h1
   refine ⟨?_,fun _=>e1⟩
   rcases hd with ⟨g1,g2⟩|⟨g1,⟨g2,g3⟩|⟨g2,g3⟩⟩
   · exact absurd g1 e2
   · exact g3 _ (Qrm h h2)
   · exact absurd (Qrm h h2) (g3 _)
 · have e1:v'=1152921504606846976:=h2
   exact ⟨by omega,fun e=>absurd e1 e⟩
end
attribute [local go_sem ↓] Go.wp_at_zero Go.wp_at_succ
/-! a weight that is set -/
theorem Rd3.setW {W:World}{b o m a:Nat}{x y z u:Int}{l:List Tri} (h:Rd3 W (some ⟨b,o,none⟩) m l) (ha:l[a]?=some (x,y,z)) :
 Rd3 (W.setCell ⟨b,o+a*3+2,none⟩ (.int .i64 u)) (some ⟨b,o,none⟩) m (l.set a (x,y,u)):=by
 refine ⟨by rw [Yq];exact h.1,fun i p hp=>?_⟩
 by_cases e:a=i
 · subst e
   rw [Yg (Zs ha).1] at hp
   cases hp
   obtain ⟨b',o',e',h1,h2,h3⟩:=h.2 a _ ha
   cases e'
   refine ⟨b,o,rfl,?_,?_,World.cell?_setCell_same _ _ _ h3⟩
   · rw [World.cell?_setCell_other _ _ _ _ (by intro h;simp only [Addr.mk.injEq] at h;omega)];exact h1
   · rw [World.cell?_setCell_other _ _ _ _ (by intro h;simp only [Addr.mk.injEq] at h;omega)];exact h2
 · rw [Yh e] at hp
   obtain ⟨b',o',e',h1,h2,h3⟩:=h.2 i _ hp
   cases e'
   refine ⟨b,o,rfl,?_,?_,?_⟩
   · rw [World.cell?_setCell_other _ _ _ _ (by intro h;simp only [Addr.mk.injEq] at h;omega)];exact h1
   · rw [World.cell?_setCell_other _ _ _ _ (by intro h;simp only [Addr.mk.injEq] at h;omega)];exact h2
   · rw [World.cell?_setCell_other _ _ _ _ (by intro h;simp only [Addr.mk.injEq] at h;omega)];exact h3
theorem Warm.set {W:World}{A:Option Addr}(h:Warm W A)(p:Addr)(v:Value):Warm (W.setCell p v) A:=fun b hb =>
 ⟨Yu (h b hb).1 (by simp [World.setCell]),fun o=>by rw [World.frozen?_setCell];exact (h b hb).2 o⟩
theorem GrR.setW {W:World}{F G:Nat→Prop}{g b o:Nat}{A C I O P:Option Addr}{n m k c d e ci co cp:Nat}{N:Qal}{a:Nat}{x y z u:Int}
 (h:GrR W F G g A (some ⟨b,o,none⟩) C I O P n m k c d e ci co cp N) (ha:N.ar[a]?=some (x,y,z)) (hu:wOk u=true) :
 GrR (W.setCell ⟨b,o+a*3+2,none⟩ (.int .i64 u)) F G g A (some ⟨b,o,none⟩) C I O P n m k c d e ci co cp (N.setW a x y u):=by
 have hk:Qbc G W (W.setCell ⟨b,o+a*3+2,none⟩ (.int .i64 u)):=Qbc.set W b _ _ (h.net.ga b rfl);have hA:=Qfv ha u;have hz:(W.setCell ⟨b,o+a*3+2,none⟩ (.int .i64 u)).heap.size=W.heap.size:=by simp [World.setCell]
 refine ⟨⟨h.net.vs.le hk.msk,h.net.ar.setW ha,h.net.ts.le (fun c' o' v hc' hc=>?_) hk.msk,h.net.wa.set _ _,h.net.wt.set _ _,h.net.ga,h.net.gt,h.net.ac⟩,(hk g h.gg h.blk.lt).trans h.blk,h.gg,?_,?_,?_,h.sub,fun b' hb'=>by rw [hz];exact h.lt b' hb',h.ok.setW ha hu,h.c0,h.c1,h.c2⟩
 · have:b≠c':=fun e=>h.net.ac b rfl (by rw [e];exact hc')
   rw [World.cell?_setCell_other _ _ _ _ (by intro h;simp only [Addr.mk.injEq] at h;omega)];exact hc
 · show RdT _ I n (Qkh (·.2.1) (N.ar.set a (x,y,u)) n)
   rw [Qlj hA.2];exact h.ins.le hk.msk
 · show RdT _ O n (Qkh (·.1) (N.ar.set a (x,y,u)) n)
   rw [Qlj hA.1];exact h.outs.le hk.msk
 · show RdP _ P m (plcs (N.ar.set a (x,y,u)))
   rw [Quf hA];exact h.plc.le hk.msk
theorem Qxs {B:Nat}{W:World}{p:Addr}(h:B≤p.block)(v:Value):Below B W (W.setCell p v):=(Zr _ _).setCell h v
set_option maxHeartbeats 1000000 in
theorem gSet_ok (g a:Nat)(x y z u:Int)(N:Qal)(F:Nat→Prop)(w:World)(h:GrO w F g N) (ha:N.ar[a]?=some (x,y,z)) (hu:wOk u=true) :
 Calls prog 42 #[.pointer (some ⟨g,0,none⟩),.int .i64 a,.int .i64 u] w fun e w'=>e=.returned .nilIface∧GrO w' F g (N.setW a x y u)∧Qbc (fun b=>¬F b) w w'∧w.heap.size≤w'.heap.size∧∀ B,(∀ b,F b→B≤b)→Below B w w':=by
 have hla:=(Zs ha).1;have HA:=Zh (Qhp g N a w h.rd (by omega) (by omega))
 have HW:=Zh (show ∀ V,Calls prog 95 #[.int .i64 u] V fun e w'=>e=.returned (.bool true)∧V=w' from fun V=>by
  have:=Qeo u V;rw [hu] at this;exact this)
 obtain ⟨G,A,B,C,I,O,P,n,m,k,c,d,e,ci,co,cp,hR⟩:=h;have hlm:a<m:=by rw [hR.net.ar.1] at hla;exact hla
 obtain ⟨b,o,eB,c0,c1,c2⟩:=hR.net.ar.2 a _ ha;subst eB;have n1:w.cell? ⟨g,1,none⟩=some (.slice (some ⟨b,o,none⟩) m d):=Zq hR.blk;have HN:=Zh (hR.setW ha hu);have hf:=(hR.net.wa b rfl).2 (o+a*3+2);have HF:=Zh (hR.sub b (.inr (.inl rfl)));have i1:(0:Int)≤(a:Int):=by omega
 have i2:(a:Int)<(m:Int):=by omega
 clear hR ha hu hla c0 c1
 go_enter func42,ntmps42
 go_wp2_with fail
 with_reducible refine HA.out.mono ?_
 rintro r w' ⟨rfl,rfl⟩
 go_wp2_with fail
 with_reducible refine (HW.out _).mono ?_
 rintro r w' ⟨rfl,rfl⟩
 go_wp2_with fail
 go_ret
 refine ⟨rfl,⟨G,A,_,C,I,O,P,n,m,k,c,d,e,ci,co,cp,HN.out⟩,Qbc.set _ _ _ _ (fun hn=>hn HF.out),by simp [World.setCell],fun B' hB=>Qxs (hB b HF.out) _⟩
theorem Own.setAt {W:World}{B n c k s g o:Nat}{e:TypeId}{xs:List Value} (h:Own W B e s (some ⟨g,o,none⟩) n c xs) (v:Value):Own (W.setCell ⟨g,o+k,none⟩ v) B e s (some ⟨g,o,none⟩) n c (xs.set k v):=by
 refine ⟨by rw [Yq];exact h.1,?_⟩
 rcases h.2 with ⟨h',_⟩|⟨g',cap',cur,h1,h2,h3,h4,h5,h6,h7⟩
 · cases h'
 · cases h1
   refine Or.inr ⟨g,c,cur.setIfInBounds (0+k) v,rfl,h2,(show Blk W g e cur from h3).set_ (0+k) _,h4,h5,by simpa using h6,?_⟩
   rw [Array.toList_setIfInBounds,List.take_set,h7,Yz]
def YwR (W:World)(B:Nat)(A:Option Addr)(n c:Nat)(xs:List Value)(ls:List Qea):Prop :=
 Own W B 122 3 A n c xs∧ls.length=n∧∀ j t,ls[j]?=some t→∃ A2 n2 c2,xs[j*3]?=some (.int .i64 t.ins)∧xs[j*3+1]?=some (.int .i64 t.outs)∧xs[j*3+2]?=some (.slice A2 n2 c2)∧RdI W A2 n2 t.costs∧(∀ g,Qac A2=some g→B≤g∧g<W.heap.size∧Qac A≠some g)∧n2≤c2∧c2≤9223372036854775807
theorem YwR.nil (W:World)(B:Nat):YwR W B none 0 0 [] []:=⟨Own.nil _ _ _ _,rfl,fun j l h=>by simp at h⟩
theorem YwR.push {W w':World}{B n c c' m d:Nat}{A A' R:Option Addr}{xs:List Value}{ls:List Qea}{t:Qea}(h:YwR W B A n c xs ls)
 (hown:Own w' B 122 3 A' (n+1) c' (xs ++[.int .i64 t.ins,.int .i64 t.outs,.slice R m d])) (hg:W.grownBy w' (Qac A)) (hat:Qac A'=Qac A∨Qac A'=some W.heap.size)
 (hr:RdI W R m t.costs) (hne:∀ g,Qac R=some g→B≤g∧g<W.heap.size∧Qac A≠some g) (h4:m≤d) (h5:d≤9223372036854775807):YwR w' B A' (n+1) c' (xs ++[.int .i64 t.ins,.int .i64 t.outs,.slice R m d]) (ls ++[t]):=by
 have hxl:xs.length=ls.length*3:=by rw [h.1.1,h.2.1]
 have new:∀ Y:Option Addr,(∀ g,Qac Y=some g→B≤g∧g<W.heap.size∧Qac A≠some g)→∀ g,Qac Y=some g→B≤g∧g<w'.heap.size∧Qac A'≠some g:=fun Y hY g e=>by
  obtain ⟨k0,k1,k2⟩:=hY g e;refine ⟨k0,Yu k1 hg.size,fun e2=>?_⟩
  rcases hat with hat|hat
  · exact k2 (by rw [←hat];exact e2)
  · rw [hat] at e2
    injection e2 with e2
    omega
 refine ⟨hown,by simp [h.2.1],fun j t' hl=>?_⟩
 rcases Nat.lt_trichotomy j ls.length with hj|hj|hj
 · rw [Yc hj] at hl
   obtain ⟨A2,n2,c2,p1,p2,p3,k2,k3,k4,k5⟩:=h.2.2 j t' hl;exact ⟨A2,n2,c2,by rw [Yc (by omega)];exact p1,by rw [Yc (by omega)];exact p2,by rw [Yc (by omega)];exact p3,k2.grownN hg (fun g e=>(k3 g e).2.2),new A2 k3,k4,k5⟩
 · subst hj
   rw [Yb (Zn _),Yy] at hl
   cases hl
   refine ⟨R,m,d,?_,?_,?_,hr.grownN hg (fun g e=>(hne g e).2.2),new R hne,h4,h5⟩
   · rw [←hxl,Yb (Zn _),Yy];rfl
   · rw [←hxl,Yb (by omega),Nat.add_sub_cancel_left];rfl
   · rw [←hxl,Yb (by omega),Nat.add_sub_cancel_left];rfl
 · rw [Yd (by simp;omega)] at hl
   cases hl
theorem YwR.below {W W':World}{B n c:Nat}{A:Option Addr}{xs:List Value}{ls:List Qea}(h:YwR W B A n c xs ls)(hb:Below W.heap.size W W'):YwR W' B A n c xs ls :=
 ⟨h.1.below hb,h.2.1,fun i l hl=>by
  obtain ⟨A',n',c',p1,p2,p3,h2,h3,h4,h5⟩:=h.2.2 i l hl;exact ⟨A',n',c',p1,p2,p3,h2.below hb,fun g hg=>⟨(h3 g hg).1,Yu (h3 g hg).2.1 hb.size,(h3 g hg).2.2⟩,h4,h5⟩⟩
theorem YwR.far {W W':World}{B n c:Nat}{A:Option Addr}{xs:List Value}{ls:List Qea}(h:YwR W B A n c xs ls){g:Nat} (hg:W.grownBy W' (some g)) (hB:g<B):YwR W' B A n c xs ls :=
 ⟨h.1.far hg (.inr (fun e=>by have:=(h.1.lt g e).1;omega)),h.2.1,fun i l hl=>by
  obtain ⟨A',n',c',p1,p2,p3,h2,h3,h4,h5⟩:=h.2.2 i l hl;refine ⟨A',n',c',p1,p2,p3,h2.grownN hg (fun k hk e=>?_),fun k hk=>⟨(h3 k hk).1,Yu (h3 k hk).2.1 hg.size,(h3 k hk).2.2⟩,h4,h5⟩
  cases e
  have:=(h3 g hk).1;omega⟩
theorem Qfy:(Tryz.prog.info? 124).map (fun i=>(i.zero,i.size,i.bytes))=some (some (.agg #[.int .i64 0,.int .i64 0,.int .i64 0]),3,24):=by kernel_rfl
theorem Qdx:(Tryz.prog.info? 119).map (fun i=>(i.zero,i.size,i.bytes))=some (some (.agg #[.int .i64 0,.int .i64 0,.int .i64 0]),3,24):=by kernel_rfl
theorem infoRT:(Tryz.prog.info? 122).map (fun i=>(i.zero,i.size,i.bytes))=some (some (.agg #[.int .i64 0,.int .i64 0,.slice none 0 0]),3,40):=by kernel_rfl
structure CpS (w1 W:World) (V:Option Addr) (nv cv:Nat) (xv:List Value) (A:Option Addr) (na ca:Nat) (xa:List Value) (N:Option Nat):Prop where
 bel:Below w1.heap.size w1 W
 v:Own W w1.heap.size 124 3 V nv cv xv
 a:Own W w1.heap.size 119 3 A na ca xa
 dj:∀ g,Qac V=some g→Qac A≠some g
 nw:∀ g,N=some g→Blk W g 26 #[.slice none 0 0,.slice none 0 0,.slice none 0 0]∧w1.heap.size≤g∧Qac V≠some g∧Qac A≠some g
section
variable {w1 W w':World} {V A V' A':Option Addr} {nv cv na ca nv' cv' na' ca':Nat} {xv xa xv' xa':List Value} {N:Option Nat}
theorem CpS.start (w1:World):CpS w1 w1.drew none 0 0 [] none 0 0 [] none:=⟨(Zr _ _).drew,Own.nil _ _ _ _,Own.nil _ _ _ _,fun g h=>by (cases h),fun g h=>by (cases h)⟩
theorem CpS.newV (h:CpS w1 W none 0 0 [] A na ca xa N):CpS w1 (W.alloc (.cells #[] 124)) (some ⟨W.heap.size,0,none⟩) 0 0 [] A na ca xa N where
 bel:=h.bel.alloc h.bel.size _
 v:=Own.lit W #[] 0 h.bel.size (by omega) rfl
 a:=h.a.alloc _
 dj:=fun g e e'=>by have e:W.heap.size=g:=Yv e;have:=(h.a.lt _ e').2;omega
 nw:=fun g e=>by
  obtain ⟨h1,h2,h3,h4⟩:=h.nw g e;exact ⟨h1.alloc _,h2,fun e'=>by have e':W.heap.size=g:=Yv e';have:=h1.lt;omega,h4⟩
theorem CpS.newA (h:CpS w1 W V nv cv xv none 0 0 [] N):CpS w1 (W.alloc (.cells #[] 119)) V nv cv xv (some ⟨W.heap.size,0,none⟩) 0 0 [] N where
 bel:=h.bel.alloc h.bel.size _
 v:=h.v.alloc _
 a:=Own.lit W #[] 0 h.bel.size (by omega) rfl
 dj:=fun g e e'=>by have e':W.heap.size=g:=Yv e';have:=(h.v.lt _ e).2;omega
 nw:=fun g e=>by
  obtain ⟨h1,h2,h3,h4⟩:=h.nw g e;exact ⟨h1.alloc _,h2,h3,fun e'=>by have e':W.heap.size=g:=Yv e';have:=h1.lt;omega⟩
theorem CpS.newN (h:CpS w1 W V nv cv xv A na ca xa none):CpS w1 (W.alloc (.cells #[.slice none 0 0,.slice none 0 0,.slice none 0 0] 26)) V nv cv xv A na ca xa (some W.heap.size) where
 bel:=h.bel.alloc h.bel.size _
 v:=h.v.alloc _
 a:=h.a.alloc _
 dj:=h.dj
 nw:=fun g e=>by
  cases e
  exact ⟨Blk.new _ _ _,h.bel.size,fun e'=>by have:=(h.v.lt _ e').2;omega,fun e'=>by have:=(h.a.lt _ e').2;omega⟩
theorem CpS.growV (h:CpS w1 W V nv cv xv A na ca xa N)(ho:Own w' w1.heap.size 124 3 V' nv' cv' xv') (hg:W.grownBy w' (Qac V)) (hat:Qac V'=Qac V∨Qac V'=some W.heap.size):CpS w1 w' V' nv' cv' xv' A na ca xa N where
 bel:=Zo h.bel hg h.v h.bel.size
 v:=ho
 a:=h.a.far hg (by
  cases e:Qac A with
  | none=>exact .inl rfl
  | some g=>exact .inr (fun e'=>h.dj g e'.symm e))
 dj:=fun g e e'=>by
  rcases hat with hat|hat
  · exact h.dj g (by rw [←hat];exact e) e'
  · rw [hat] at e;cases e;have:=(h.a.lt _ e').2;omega
 nw:=fun g e=>by
  obtain ⟨h1,h2,h3,h4⟩:=h.nw g e;refine ⟨h1.grown hg h3,h2,fun e'=>?_,h4⟩
  rcases hat with hat|hat
  · exact h3 (by rw [←hat];exact e')
  · rw [hat] at e';cases e';have:=h1.lt;omega
theorem CpS.growA (h:CpS w1 W V nv cv xv A na ca xa N)(ho:Own w' w1.heap.size 119 3 A' na' ca' xa') (hg:W.grownBy w' (Qac A)) (hat:Qac A'=Qac A∨Qac A'=some W.heap.size):CpS w1 w' V nv cv xv A' na' ca' xa' N where
 bel:=Zo h.bel hg h.a h.bel.size
 v:=h.v.far hg (by
  cases e:Qac V with
  | none=>exact .inl rfl
  | some g=>exact .inr (fun e'=>h.dj g e e'.symm))
 a:=ho
 dj:=fun g e e'=>by
  rcases hat with hat|hat
  · exact h.dj g e (by rw [←hat];exact e')
  · rw [hat] at e';cases e';have:=(h.v.lt _ e).2;omega
 nw:=fun g e=>by
  obtain ⟨h1,h2,h3,h4⟩:=h.nw g e;refine ⟨h1.grown hg h4,h2,h3,fun e'=>?_⟩
  rcases hat with hat|hat
  · exact h4 (by rw [←hat];exact e')
  · rw [hat] at e';cases e';have:=h1.lt;omega
end
structure CyS (Wa W:World) (R:Option Addr) (nr cr:Nat) (xr:List Value) (T1:Option Addr) (yt:List Value):Prop where
 bel:Below Wa.heap.size Wa W
 r:Own W Wa.heap.size 2 1 R nr cr xr
 t1:yt=[]∨Rds W 3 T1 1 yt
section
variable {Wa W w':World} {R T1 R':Option Addr} {nr cr nr' cr':Nat} {xr xr' yt:List Value}
theorem CyS.start (w1:World):CyS w1 w1.drew none 0 0 [] none []:=⟨(Zr _ _).drew,Own.nil _ _ _ _,.inl rfl⟩
theorem CyS.newR (h:CyS Wa W none 0 0 [] none []):CyS Wa (W.alloc (.cells #[] 2)) (some ⟨W.heap.size,0,none⟩) 0 0 [] none []:=⟨h.bel.alloc h.bel.size _,Own.lit W #[] 0 h.bel.size (by omega) rfl,.inl rfl⟩
theorem CyS.growR (h:CyS Wa W R nr cr xr none []) (ho:Own w' Wa.heap.size 2 1 R' nr' cr' xr') (hg:W.grownBy w' (Qac R)):CyS Wa w' R' nr' cr' xr' none []:=⟨Zo h.bel hg h.r h.bel.size,ho,.inl rfl⟩
theorem CyS.newT (h:CyS Wa W R nr cr xr none []) (a b c:Value):CyS Wa (W.alloc (.cells #[a,b,c] 122)) R nr cr xr (some ⟨W.heap.size,0,none⟩) [a,b,c]:=⟨h.bel.alloc h.bel.size _,h.r.alloc _,.inr ((Blk.new W 122 #[a,b,c]).rds rfl)⟩
end
def CyG (Wa:World)(C3:Option Addr)(j e3 n':Nat)(t:Qea)(v28 _v33 v36 v37 v38:Value)(w':World):Prop :=
 ∃ (A2:Option Addr) (c2 g:Nat),v28=.slice C3 j e3∧v36=.slice A2 n' c2∧v37=.agg #[.int .i64 t.ins,.int .i64 t.outs,.slice A2 n' c2]∧v38=.slice (some ⟨g,0,none⟩) 1 1∧CyS Wa w' A2 n' c2 (Qaf t.costs) (some ⟨g,0,none⟩) [.int .i64 t.ins,.int .i64 t.outs,.slice A2 n' c2]
theorem CyG.of {Wa W:World}{C3 A2:Option Addr}{j e3 n' c2 g:Nat}{t:Qea}{a:Value} (h:CyS Wa W A2 n' c2 (Qaf t.costs) (some ⟨g,0,none⟩) [.int .i64 t.ins,.int .i64 t.outs,.slice A2 n' c2]) :
 CyG Wa C3 j e3 n' t (.slice C3 j e3) a (.slice A2 n' c2) (.agg #[.int .i64 t.ins,.int .i64 t.outs,.slice A2 n' c2]) (.slice (some ⟨g,0,none⟩) 1 1) W:=⟨A2,c2,g,rfl,rfl,rfl,rfl,h⟩
theorem Qpl {P:Program}{ops:Array Oper}{Q:Exit→Act→World→Prop}{md:Region.Mode}{S:World→Prop}{G:Value→Value→Value→Value→Value→World→Prop}{L listed:Array Bool}{f0 fuel:Nat}{a:Act}{w:World}(d1 d2 d3 d4 d5:Option Tmp)(hf:fuel=f0+5)
 (hA:∀ C:Act→World→Prop,Shut (∀ v1 v2 v3 v4 v5 w',G v1 v2 v3 v4 v5 w'→C (((((a.put d1 v1).put d2 v2).put d3 v3).put d4 v4).put d5 v5) w')→wpC P md ops Q S L C 5 listed a w)
 (hB:∀ v1 v2 v3 v4 v5 w',G v1 v2 v3 v4 v5 w'→wpAnyH P md ops Q S f0 L (((((a.put d1 v1).put d2 v2).put d3 v3).put d4 v4).put d5 v5) w'):wpAnyH P md ops Q S fuel listed a w:=by
 subst hf;exact Qmo (C:=fun a' w'=>wpAnyH P md ops Q S f0 L a' w') (fun _ _ h=>h) 5 listed a w (hA _ hB)
def CpG (w1:World)(n m:Nat)(N:Qal)(_v6 v9 _v10 v13 v14 v3:Value)(w':World):Prop :=
 ∃ (V A:Option Addr) (c1 c2 g:Nat),v9=.slice V n c1∧v13=.slice A m c2∧v14=.agg #[.slice V n c1,.slice A m c2,.slice none 0 0]∧v3=.pointer (some ⟨g,0,none⟩)∧CpS w1 w' V n c1 (Qam N.vs) A m c2 (Qam N.ar) (some g)
theorem CpG.of {w1 W:World}{n m c1 c2 g:Nat}{N:Qal}{V A:Option Addr}{a b:Value} (h:CpS w1 W V n c1 (Qam N.vs) A m c2 (Qam N.ar) (some g)) :
 CpG w1 n m N a (.slice V n c1) b (.slice A m c2) (.agg #[.slice V n c1,.slice A m c2,.slice none 0 0]) (.pointer (some ⟨g,0,none⟩)) W:=⟨V,A,c1,c2,g,rfl,rfl,rfl,rfl,h⟩
theorem Qty {P:Program}{ops:Array Oper}{Q:Exit→Act→World→Prop}{md:Region.Mode}{S:World→Prop}{G:Value→Value→Value→Value→Value→Value→World→Prop}{L listed:Array Bool}{f0 fuel:Nat}{a:Act}{w:World}(d1 d2 d3 d4 d5 d6:Option Tmp)(hf:fuel=f0+6)
 (hA:∀ C:Act→World→Prop,Shut (∀ v1 v2 v3 v4 v5 v6 w',G v1 v2 v3 v4 v5 v6 w'→C ((((((a.put d1 v1).put d2 v2).put d3 v3).put d4 v4).put d5 v5).put d6 v6) w')→wpC P md ops Q S L C 6 listed a w)
 (hB:∀ v1 v2 v3 v4 v5 v6 w',G v1 v2 v3 v4 v5 v6 w'→wpAnyH P md ops Q S f0 L ((((((a.put d1 v1).put d2 v2).put d3 v3).put d4 v4).put d5 v5).put d6 v6) w'):wpAnyH P md ops Q S fuel listed a w:=by
 subst hf;exact Qmo (C:=fun a' w'=>wpAnyH P md ops Q S f0 L a' w') (fun _ _ h=>h) 6 listed a w (hA _ hB)
set_option maxHeartbeats 4000000 in
set_option maxRecDepth 20000 in
theorem Qrf (A B C:Option Addr)(n m k c d e:Nat)(N:Qal)(w:World)(h:Qbu w A B C n m k N)(hn:n≤1000000)(hm:m≤1000000)(hk:k≤1000000)(hc:∀ t∈N.ts,t.costs.length≤1000000) :
 Calls prog 92 #[.agg #[.slice A n c,.slice B m d,.slice C k e]] w fun r w'=>∃ A' B' C' c' d' e' K xs,r=.returned (.agg #[.slice A' n c',.slice B' m d',.slice C' k e'])∧w.heap.size≤K ∧
  Own w' w.heap.size 124 3 A' n c' (Qam N.vs)∧Own w' w.heap.size 119 3 B' m d' (Qam N.ar)∧YwR w' K C' k e' xs N.ts ∧
  (∀ g,Qac A'=some g→Qac B'≠some g)∧(∀ g,Qac A'=some g→g<K)∧(∀ g,Qac B'=some g→g<K)∧Below w.heap.size w w':=by
 have HV0:=Zh h.1;have HA0:=Zh h.2.1;have HY:=Zh h.2.2;have HC:=Zh hc;clear h hc
 go_enter func92,ntmps92
 go_wp2_with fail
 (refine Qai ?_;intro w1 hw1)
 have hb1:Below w.heap.size w w1:=by rw [hw1];exact Qag
 have hJ:Blk w1 w.heap.size 26 #[.slice A n c,.slice B m d,.slice C k e]:=by rw [hw1];exact Qbf
 have hR:Blk w1 (w.heap.size+1) 26 #[.slice none 0 0,.slice none 0 0,.slice none 0 0]:=by rw [hw1];exact Qbf
 have hz1:w1.heap.size=w.heap.size+2:=by rw [hw1];simp
 clear hw1;obtain ⟨j0,j1,j2⟩:=hJ.three;have HSX:=Zh (show ∀ X,Below w1.heap.size w1 X→X.cell? ⟨w.heap.size,0,none⟩=some (.slice A n c)∧X.cell? ⟨w.heap.size,1,none⟩=some (.slice B m d) from fun X hX=>⟨Zc hX (Zn _) j0,Zc hX (Zn _) j1⟩)
 have HV:=Zh (show ∀ X,Below w1.heap.size w1 X→Rds X 3 A n (Qam N.vs) from fun X hX=>((HV0.out.below hb1).below hX).rds)
 have HA:=Zh (show ∀ X,Below w1.heap.size w1 X→Rds X 3 B m (Qam N.ar) from fun X hX=>((HA0.out.below hb1).below hX).rds)
 clear j0 j1 j2
 go_wp2_with fail
 refine wp_region_held_drew (S:=fun X=>Below w1.heap.size w1 X) (by kernel_rfl) (Zr _ _).drew (fun _=>?_);refine tz 1 7 ?_;refine tz 2 8 ?_;refine tz 5 11 ?_;refine tz 6 12 ?_;have h0:=CpS.start w1;obtain ⟨W0,q⟩:∃ X,X=w1.drew:=⟨_,rfl⟩;rw [←q] at h0 ⊢;clear q;refine Qty (G:=CpG w1 n m N) (L:=#[true,true,true,true,true,true,true,true,true,true,false]) (f0:=1) (some 6) (some 9) (some 10) (some 13) (some 14) (some 3) rfl (fun C0 hC=>?_) ?_
 · skip
   refine Qae (rs:=[0,4,9]) (by kernel_rfl) (by simp) ?_;refine Qau.cons (o:=_) rfl (fun K hK=>?_) (Qau.cons (o:=_) rfl (fun K hK=>?_) (Qau.cons (o:=_) rfl (fun K hK=>?_) (Qau.nil)))
   · go_simp
     refine hK.out _ _ h0.newV.bel (fun _=>?_);have h1:=h0.newV;obtain ⟨W1,q⟩:∃ X,X=W0.alloc (.cells #[] 124):=⟨_,rfl⟩;obtain ⟨g0,q2⟩:∃ g,g=W0.heap.size:=⟨_,rfl⟩;rw [←q] at h1 ⊢
     try rw [←q2] at h1 ⊢
     clear hK K q q2 h0
     try simp only [Act.put,Yi,Yj,Yk]
     refine Qae (rs:=[3,4,9]) (by kernel_rfl) (by simp) ?_;refine Qau.cons (o:=_) rfl (fun K hK=>?_) (Qau.cons (o:=_) rfl (fun K hK=>?_) (Qau.cons (o:=_) rfl (fun K hK=>?_) (Qau.nil)))
     · with_reducible refine Qah (some 9) rfl rfl (.tmp 6) (.tmp 8) 22 rfl 124 _ 3 24 Qfy underlying22 rfl (by omega) rfl rfl h1.v (HV.out W1 h1.bel) (Qan _) (by omega) (by omega) h1.bel.size ?_
       intro X c W2 ho hg hat;rw [Yz,List.nil_append] at ho;have h2:=h1.growV ho hg hat;refine hK.out _ _ h2.bel (fun _=>?_);clear hK K ho hg hat h1;simp only [Act.put,Yi,Yj,Yk,Yz];refine Qae (rs:=[4,9]) (by kernel_rfl) (by simp) ?_;refine Qau.cons (o:=_) rfl (fun K hK=>?_) (Qau.cons (o:=_) rfl (fun K hK=>?_) (Qau.nil))
       · go_simp
         refine hK.out _ _ h2.newA.bel (fun _=>?_);have h3:=h2.newA;obtain ⟨W3,q⟩:∃ X,X=W2.alloc (.cells #[] 119):=⟨_,rfl⟩;obtain ⟨g4,q2⟩:∃ g,g=W2.heap.size:=⟨_,rfl⟩;rw [←q] at h3 ⊢
         try rw [←q2] at h3 ⊢
         clear hK K q q2 h2
         try simp only [Act.put,Yi,Yj,Yk]
         refine Qae (rs:=[7,9]) (by kernel_rfl) (by simp) ?_;refine Qau.cons (o:=_) rfl (fun K hK=>?_) (Qau.cons (o:=_) rfl (fun K hK=>?_) (Qau.nil))
         · with_reducible refine Qah (some 13) rfl rfl (.tmp 10) (.tmp 12) 23 rfl 119 _ 3 24 Qdx underlying23 rfl (by omega) rfl rfl h3.a (HA.out W3 h3.bel) (Qan _) (by omega) (by omega) h3.bel.size ?_
           intro X c W4 ho hg hat;rw [Yz,List.nil_append] at ho;have h4:=h3.growA ho hg hat;refine hK.out _ _ h4.bel (fun _=>?_);clear hK K ho hg hat h3;simp only [Act.put,Yi,Yj,Yk,Yz];refine Qae (rs:=[8,9]) (by kernel_rfl) (by simp) ?_;refine Qau.cons (o:=_) rfl (fun K hK=>?_) (Qau.cons (o:=_) rfl (fun K hK=>?_) (Qau.nil))
           · go_simp
             refine hK.out _ _ h4.bel (fun _=>?_);have h5:=h4;obtain ⟨W5,rfl⟩:∃ X,X=W4:=⟨_,rfl⟩;clear hK K h4
             try simp only [Act.put,Yi,Yj,Yk]
             refine Qae (rs:=[9]) (by kernel_rfl) (by simp) ?_;refine Qau.cons (o:=_) rfl (fun K hK=>?_) (Qau.nil);go_simp;refine hK.out _ _ h5.newN.bel (fun _=>?_);have h6:=h5.newN;obtain ⟨W6,q⟩:∃ X,X=W5.alloc (.cells #[.slice none 0 0,.slice none 0 0,.slice none 0 0] 26):=⟨_,rfl⟩;obtain ⟨g9,q2⟩:∃ g,g=W5.heap.size:=⟨_,rfl⟩;rw [←q] at h6 ⊢
             try rw [←q2] at h6 ⊢
             clear hK K q q2 h5
             try simp only [Act.put,Yi,Yj,Yk]
             exact ⟨by kernel_rfl,hC.out (.slice (some ⟨g0,0,none⟩) 0 0) _ (.slice (some ⟨g4,0,none⟩) 0 0) _ _ _ _ (CpG.of h6)⟩
           · go_simp
             refine hK.out _ _ h4.newN.bel (fun _=>?_);have h5:=h4.newN;obtain ⟨W5,q⟩:∃ X,X=W4.alloc (.cells #[.slice none 0 0,.slice none 0 0,.slice none 0 0] 26):=⟨_,rfl⟩;obtain ⟨g9,q2⟩:∃ g,g=W4.heap.size:=⟨_,rfl⟩;rw [←q] at h5 ⊢
             try rw [←q2] at h5 ⊢
             clear hK K q q2 h4
             try simp only [Act.put,Yi,Yj,Yk]
             refine Qae (rs:=[8]) (by kernel_rfl) (by simp) ?_;refine Qau.cons (o:=_) rfl (fun K hK=>?_) (Qau.nil);go_simp;refine hK.out _ _ h5.bel (fun _=>?_);have h6:=h5;obtain ⟨W6,rfl⟩:∃ X,X=W5:=⟨_,rfl⟩;clear hK K h5
             try simp only [Act.put,Yi,Yj,Yk]
             exact ⟨by kernel_rfl,hC.out (.slice (some ⟨g0,0,none⟩) 0 0) _ (.slice (some ⟨g4,0,none⟩) 0 0) _ _ _ _ (CpG.of h6)⟩
         · go_simp
           refine hK.out _ _ h3.newN.bel (fun _=>?_);have h4:=h3.newN;obtain ⟨W4,q⟩:∃ X,X=W3.alloc (.cells #[.slice none 0 0,.slice none 0 0,.slice none 0 0] 26):=⟨_,rfl⟩;obtain ⟨g9,q2⟩:∃ g,g=W3.heap.size:=⟨_,rfl⟩;rw [←q] at h4 ⊢
           try rw [←q2] at h4 ⊢
           clear hK K q q2 h3
           try simp only [Act.put,Yi,Yj,Yk]
           refine Qae (rs:=[7]) (by kernel_rfl) (by simp) ?_;refine Qau.cons (o:=_) rfl (fun K hK=>?_) (Qau.nil);with_reducible refine Qah (some 13) rfl rfl (.tmp 10) (.tmp 12) 23 rfl 119 _ 3 24 Qdx underlying23 rfl (by omega) rfl rfl h4.a (HA.out W4 h4.bel) (Qan _) (by omega) (by omega) h4.bel.size ?_
           intro X c W5 ho hg hat;rw [Yz,List.nil_append] at ho;have h5:=h4.growA ho hg hat;refine hK.out _ _ h5.bel (fun _=>?_);clear hK K ho hg hat h4;simp only [Act.put,Yi,Yj,Yk,Yz];refine Qae (rs:=[8]) (by kernel_rfl) (by simp) ?_;refine Qau.cons (o:=_) rfl (fun K hK=>?_) (Qau.nil);go_simp;refine hK.out _ _ h5.bel (fun _=>?_);have h6:=h5;obtain ⟨W6,rfl⟩:∃ X,X=W5:=⟨_,rfl⟩;clear hK K h5
           try simp only [Act.put,Yi,Yj,Yk]
           exact ⟨by kernel_rfl,hC.out (.slice (some ⟨g0,0,none⟩) 0 0) _ (.slice (some ⟨g4,0,none⟩) 0 0) _ _ _ _ (CpG.of h6)⟩
       · go_simp
         refine hK.out _ _ h2.newN.bel (fun _=>?_);have h3:=h2.newN;obtain ⟨W3,q⟩:∃ X,X=W2.alloc (.cells #[.slice none 0 0,.slice none 0 0,.slice none 0 0] 26):=⟨_,rfl⟩;obtain ⟨g9,q2⟩:∃ g,g=W2.heap.size:=⟨_,rfl⟩;rw [←q] at h3 ⊢
         try rw [←q2] at h3 ⊢
         clear hK K q q2 h2
         try simp only [Act.put,Yi,Yj,Yk]
         refine Qae (rs:=[4]) (by kernel_rfl) (by simp) ?_;refine Qau.cons (o:=_) rfl (fun K hK=>?_) (Qau.nil);go_simp;refine hK.out _ _ h3.newA.bel (fun _=>?_);have h4:=h3.newA;obtain ⟨W4,q⟩:∃ X,X=W3.alloc (.cells #[] 119):=⟨_,rfl⟩;obtain ⟨g4,q2⟩:∃ g,g=W3.heap.size:=⟨_,rfl⟩;rw [←q] at h4 ⊢
         try rw [←q2] at h4 ⊢
         clear hK K q q2 h3
         try simp only [Act.put,Yi,Yj,Yk]
         refine Qae (rs:=[7]) (by kernel_rfl) (by simp) ?_;refine Qau.cons (o:=_) rfl (fun K hK=>?_) (Qau.nil);with_reducible refine Qah (some 13) rfl rfl (.tmp 10) (.tmp 12) 23 rfl 119 _ 3 24 Qdx underlying23 rfl (by omega) rfl rfl h4.a (HA.out W4 h4.bel) (Qan _) (by omega) (by omega) h4.bel.size ?_
         intro X c W5 ho hg hat;rw [Yz,List.nil_append] at ho;have h5:=h4.growA ho hg hat;refine hK.out _ _ h5.bel (fun _=>?_);clear hK K ho hg hat h4;simp only [Act.put,Yi,Yj,Yk,Yz];refine Qae (rs:=[8]) (by kernel_rfl) (by simp) ?_;refine Qau.cons (o:=_) rfl (fun K hK=>?_) (Qau.nil);go_simp;refine hK.out _ _ h5.bel (fun _=>?_);have h6:=h5;obtain ⟨W6,rfl⟩:∃ X,X=W5:=⟨_,rfl⟩;clear hK K h5
         try simp only [Act.put,Yi,Yj,Yk]
         exact ⟨by kernel_rfl,hC.out (.slice (some ⟨g0,0,none⟩) 0 0) _ (.slice (some ⟨g4,0,none⟩) 0 0) _ _ _ _ (CpG.of h6)⟩
     · go_simp
       refine hK.out _ _ h1.newA.bel (fun _=>?_);have h2:=h1.newA;obtain ⟨W2,q⟩:∃ X,X=W1.alloc (.cells #[] 119):=⟨_,rfl⟩;obtain ⟨g4,q2⟩:∃ g,g=W1.heap.size:=⟨_,rfl⟩;rw [←q] at h2 ⊢
       try rw [←q2] at h2 ⊢
       clear hK K q q2 h1
       try simp only [Act.put,Yi,Yj,Yk]
       refine Qae (rs:=[3,9]) (by kernel_rfl) (by simp) ?_;refine Qau.cons (o:=_) rfl (fun K hK=>?_) (Qau.cons (o:=_) rfl (fun K hK=>?_) (Qau.nil))
       · with_reducible refine Qah (some 9) rfl rfl (.tmp 6) (.tmp 8) 22 rfl 124 _ 3 24 Qfy underlying22 rfl (by omega) rfl rfl h2.v (HV.out W2 h2.bel) (Qan _) (by omega) (by omega) h2.bel.size ?_
         intro X c W3 ho hg hat;rw [Yz,List.nil_append] at ho;have h3:=h2.growV ho hg hat;refine hK.out _ _ h3.bel (fun _=>?_);clear hK K ho hg hat h2;simp only [Act.put,Yi,Yj,Yk,Yz];refine Qae (rs:=[7,9]) (by kernel_rfl) (by simp) ?_;refine Qau.cons (o:=_) rfl (fun K hK=>?_) (Qau.cons (o:=_) rfl (fun K hK=>?_) (Qau.nil))
         · with_reducible refine Qah (some 13) rfl rfl (.tmp 10) (.tmp 12) 23 rfl 119 _ 3 24 Qdx underlying23 rfl (by omega) rfl rfl h3.a (HA.out W3 h3.bel) (Qan _) (by omega) (by omega) h3.bel.size ?_
           intro X c W4 ho hg hat;rw [Yz,List.nil_append] at ho;have h4:=h3.growA ho hg hat;refine hK.out _ _ h4.bel (fun _=>?_);clear hK K ho hg hat h3;simp only [Act.put,Yi,Yj,Yk,Yz];refine Qae (rs:=[8,9]) (by kernel_rfl) (by simp) ?_;refine Qau.cons (o:=_) rfl (fun K hK=>?_) (Qau.cons (o:=_) rfl (fun K hK=>?_) (Qau.nil))
           · go_simp
             refine hK.out _ _ h4.bel (fun _=>?_);have h5:=h4;obtain ⟨W5,rfl⟩:∃ X,X=W4:=⟨_,rfl⟩;clear hK K h4
             try simp only [Act.put,Yi,Yj,Yk]
             refine Qae (rs:=[9]) (by kernel_rfl) (by simp) ?_;refine Qau.cons (o:=_) rfl (fun K hK=>?_) (Qau.nil);go_simp;refine hK.out _ _ h5.newN.bel (fun _=>?_);have h6:=h5.newN;obtain ⟨W6,q⟩:∃ X,X=W5.alloc (.cells #[.slice none 0 0,.slice none 0 0,.slice none 0 0] 26):=⟨_,rfl⟩;obtain ⟨g9,q2⟩:∃ g,g=W5.heap.size:=⟨_,rfl⟩;rw [←q] at h6 ⊢
             try rw [←q2] at h6 ⊢
             clear hK K q q2 h5
             try simp only [Act.put,Yi,Yj,Yk]
             exact ⟨by kernel_rfl,hC.out (.slice (some ⟨g0,0,none⟩) 0 0) _ (.slice (some ⟨g4,0,none⟩) 0 0) _ _ _ _ (CpG.of h6)⟩
           · go_simp
             refine hK.out _ _ h4.newN.bel (fun _=>?_);have h5:=h4.newN;obtain ⟨W5,q⟩:∃ X,X=W4.alloc (.cells #[.slice none 0 0,.slice none 0 0,.slice none 0 0] 26):=⟨_,rfl⟩;obtain ⟨g9,q2⟩:∃ g,g=W4.heap.size:=⟨_,rfl⟩;rw [←q] at h5 ⊢
             try rw [←q2] at h5 ⊢
             clear hK K q q2 h4
             try simp only [Act.put,Yi,Yj,Yk]
             refine Qae (rs:=[8]) (by kernel_rfl) (by simp) ?_;refine Qau.cons (o:=_) rfl (fun K hK=>?_) (Qau.nil);go_simp;refine hK.out _ _ h5.bel (fun _=>?_);have h6:=h5;obtain ⟨W6,rfl⟩:∃ X,X=W5:=⟨_,rfl⟩;clear hK K h5
             try simp only [Act.put,Yi,Yj,Yk]
             exact ⟨by kernel_rfl,hC.out (.slice (some ⟨g0,0,none⟩) 0 0) _ (.slice (some ⟨g4,0,none⟩) 0 0) _ _ _ _ (CpG.of h6)⟩
         · go_simp
           refine hK.out _ _ h3.newN.bel (fun _=>?_);have h4:=h3.newN;obtain ⟨W4,q⟩:∃ X,X=W3.alloc (.cells #[.slice none 0 0,.slice none 0 0,.slice none 0 0] 26):=⟨_,rfl⟩;obtain ⟨g9,q2⟩:∃ g,g=W3.heap.size:=⟨_,rfl⟩;rw [←q] at h4 ⊢
           try rw [←q2] at h4 ⊢
           clear hK K q q2 h3
           try simp only [Act.put,Yi,Yj,Yk]
           refine Qae (rs:=[7]) (by kernel_rfl) (by simp) ?_;refine Qau.cons (o:=_) rfl (fun K hK=>?_) (Qau.nil);with_reducible refine Qah (some 13) rfl rfl (.tmp 10) (.tmp 12) 23 rfl 119 _ 3 24 Qdx underlying23 rfl (by omega) rfl rfl h4.a (HA.out W4 h4.bel) (Qan _) (by omega) (by omega) h4.bel.size ?_
           intro X c W5 ho hg hat;rw [Yz,List.nil_append] at ho;have h5:=h4.growA ho hg hat;refine hK.out _ _ h5.bel (fun _=>?_);clear hK K ho hg hat h4;simp only [Act.put,Yi,Yj,Yk,Yz];refine Qae (rs:=[8]) (by kernel_rfl) (by simp) ?_;refine Qau.cons (o:=_) rfl (fun K hK=>?_) (Qau.nil);go_simp;refine hK.out _ _ h5.bel (fun _=>?_);have h6:=h5;obtain ⟨W6,rfl⟩:∃ X,X=W5:=⟨_,rfl⟩;clear hK K h5
           try simp only [Act.put,Yi,Yj,Yk]
           exact ⟨by kernel_rfl,hC.out (.slice (some ⟨g0,0,none⟩) 0 0) _ (.slice (some ⟨g4,0,none⟩) 0 0) _ _ _ _ (CpG.of h6)⟩
       · go_simp
         refine hK.out _ _ h2.newN.bel (fun _=>?_);have h3:=h2.newN;obtain ⟨W3,q⟩:∃ X,X=W2.alloc (.cells #[.slice none 0 0,.slice none 0 0,.slice none 0 0] 26):=⟨_,rfl⟩;obtain ⟨g9,q2⟩:∃ g,g=W2.heap.size:=⟨_,rfl⟩;rw [←q] at h3 ⊢
         try rw [←q2] at h3 ⊢
         clear hK K q q2 h2
         try simp only [Act.put,Yi,Yj,Yk]
         refine Qae (rs:=[3]) (by kernel_rfl) (by simp) ?_;refine Qau.cons (o:=_) rfl (fun K hK=>?_) (Qau.nil);with_reducible refine Qah (some 9) rfl rfl (.tmp 6) (.tmp 8) 22 rfl 124 _ 3 24 Qfy underlying22 rfl (by omega) rfl rfl h3.v (HV.out W3 h3.bel) (Qan _) (by omega) (by omega) h3.bel.size ?_
         intro X c W4 ho hg hat;rw [Yz,List.nil_append] at ho;have h4:=h3.growV ho hg hat;refine hK.out _ _ h4.bel (fun _=>?_);clear hK K ho hg hat h3;simp only [Act.put,Yi,Yj,Yk,Yz];refine Qae (rs:=[7]) (by kernel_rfl) (by simp) ?_;refine Qau.cons (o:=_) rfl (fun K hK=>?_) (Qau.nil);with_reducible refine Qah (some 13) rfl rfl (.tmp 10) (.tmp 12) 23 rfl 119 _ 3 24 Qdx underlying23 rfl (by omega) rfl rfl h4.a (HA.out W4 h4.bel) (Qan _) (by omega) (by omega) h4.bel.size ?_
         intro X c W5 ho hg hat;rw [Yz,List.nil_append] at ho;have h5:=h4.growA ho hg hat;refine hK.out _ _ h5.bel (fun _=>?_);clear hK K ho hg hat h4;simp only [Act.put,Yi,Yj,Yk,Yz];refine Qae (rs:=[8]) (by kernel_rfl) (by simp) ?_;refine Qau.cons (o:=_) rfl (fun K hK=>?_) (Qau.nil);go_simp;refine hK.out _ _ h5.bel (fun _=>?_);have h6:=h5;obtain ⟨W6,rfl⟩:∃ X,X=W5:=⟨_,rfl⟩;clear hK K h5
         try simp only [Act.put,Yi,Yj,Yk]
         exact ⟨by kernel_rfl,hC.out (.slice (some ⟨g0,0,none⟩) 0 0) _ (.slice (some ⟨g4,0,none⟩) 0 0) _ _ _ _ (CpG.of h6)⟩
     · go_simp
       refine hK.out _ _ h1.newN.bel (fun _=>?_);have h2:=h1.newN;obtain ⟨W2,q⟩:∃ X,X=W1.alloc (.cells #[.slice none 0 0,.slice none 0 0,.slice none 0 0] 26):=⟨_,rfl⟩;obtain ⟨g9,q2⟩:∃ g,g=W1.heap.size:=⟨_,rfl⟩;rw [←q] at h2 ⊢
       try rw [←q2] at h2 ⊢
       clear hK K q q2 h1
       try simp only [Act.put,Yi,Yj,Yk]
       refine Qae (rs:=[3,4]) (by kernel_rfl) (by simp) ?_;refine Qau.cons (o:=_) rfl (fun K hK=>?_) (Qau.cons (o:=_) rfl (fun K hK=>?_) (Qau.nil))
       · with_reducible refine Qah (some 9) rfl rfl (.tmp 6) (.tmp 8) 22 rfl 124 _ 3 24 Qfy underlying22 rfl (by omega) rfl rfl h2.v (HV.out W2 h2.bel) (Qan _) (by omega) (by omega) h2.bel.size ?_
         intro X c W3 ho hg hat;rw [Yz,List.nil_append] at ho;have h3:=h2.growV ho hg hat;refine hK.out _ _ h3.bel (fun _=>?_);clear hK K ho hg hat h2;simp only [Act.put,Yi,Yj,Yk,Yz];refine Qae (rs:=[4]) (by kernel_rfl) (by simp) ?_;refine Qau.cons (o:=_) rfl (fun K hK=>?_) (Qau.nil);go_simp;refine hK.out _ _ h3.newA.bel (fun _=>?_);have h4:=h3.newA;obtain ⟨W4,q⟩:∃ X,X=W3.alloc (.cells #[] 119):=⟨_,rfl⟩;obtain ⟨g4,q2⟩:∃ g,g=W3.heap.size:=⟨_,rfl⟩;rw [←q] at h4 ⊢
         try rw [←q2] at h4 ⊢
         clear hK K q q2 h3
         try simp only [Act.put,Yi,Yj,Yk]
         refine Qae (rs:=[7]) (by kernel_rfl) (by simp) ?_;refine Qau.cons (o:=_) rfl (fun K hK=>?_) (Qau.nil);with_reducible refine Qah (some 13) rfl rfl (.tmp 10) (.tmp 12) 23 rfl 119 _ 3 24 Qdx underlying23 rfl (by omega) rfl rfl h4.a (HA.out W4 h4.bel) (Qan _) (by omega) (by omega) h4.bel.size ?_
         intro X c W5 ho hg hat;rw [Yz,List.nil_append] at ho;have h5:=h4.growA ho hg hat;refine hK.out _ _ h5.bel (fun _=>?_);clear hK K ho hg hat h4;simp only [Act.put,Yi,Yj,Yk,Yz];refine Qae (rs:=[8]) (by kernel_rfl) (by simp) ?_;refine Qau.cons (o:=_) rfl (fun K hK=>?_) (Qau.nil);go_simp;refine hK.out _ _ h5.bel (fun _=>?_);have h6:=h5;obtain ⟨W6,rfl⟩:∃ X,X=W5:=⟨_,rfl⟩;clear hK K h5
         try simp only [Act.put,Yi,Yj,Yk]
         exact ⟨by kernel_rfl,hC.out (.slice (some ⟨g0,0,none⟩) 0 0) _ (.slice (some ⟨g4,0,none⟩) 0 0) _ _ _ _ (CpG.of h6)⟩
       · go_simp
         refine hK.out _ _ h2.newA.bel (fun _=>?_);have h3:=h2.newA;obtain ⟨W3,q⟩:∃ X,X=W2.alloc (.cells #[] 119):=⟨_,rfl⟩;obtain ⟨g4,q2⟩:∃ g,g=W2.heap.size:=⟨_,rfl⟩;rw [←q] at h3 ⊢
         try rw [←q2] at h3 ⊢
         clear hK K q q2 h2
         try simp only [Act.put,Yi,Yj,Yk]
         refine Qae (rs:=[3]) (by kernel_rfl) (by simp) ?_;refine Qau.cons (o:=_) rfl (fun K hK=>?_) (Qau.nil);with_reducible refine Qah (some 9) rfl rfl (.tmp 6) (.tmp 8) 22 rfl 124 _ 3 24 Qfy underlying22 rfl (by omega) rfl rfl h3.v (HV.out W3 h3.bel) (Qan _) (by omega) (by omega) h3.bel.size ?_
         intro X c W4 ho hg hat;rw [Yz,List.nil_append] at ho;have h4:=h3.growV ho hg hat;refine hK.out _ _ h4.bel (fun _=>?_);clear hK K ho hg hat h3;simp only [Act.put,Yi,Yj,Yk,Yz];refine Qae (rs:=[7]) (by kernel_rfl) (by simp) ?_;refine Qau.cons (o:=_) rfl (fun K hK=>?_) (Qau.nil);with_reducible refine Qah (some 13) rfl rfl (.tmp 10) (.tmp 12) 23 rfl 119 _ 3 24 Qdx underlying23 rfl (by omega) rfl rfl h4.a (HA.out W4 h4.bel) (Qan _) (by omega) (by omega) h4.bel.size ?_
         intro X c W5 ho hg hat;rw [Yz,List.nil_append] at ho;have h5:=h4.growA ho hg hat;refine hK.out _ _ h5.bel (fun _=>?_);clear hK K ho hg hat h4;simp only [Act.put,Yi,Yj,Yk,Yz];refine Qae (rs:=[8]) (by kernel_rfl) (by simp) ?_;refine Qau.cons (o:=_) rfl (fun K hK=>?_) (Qau.nil);go_simp;refine hK.out _ _ h5.bel (fun _=>?_);have h6:=h5;obtain ⟨W6,rfl⟩:∃ X,X=W5:=⟨_,rfl⟩;clear hK K h5
         try simp only [Act.put,Yi,Yj,Yk]
         exact ⟨by kernel_rfl,hC.out (.slice (some ⟨g0,0,none⟩) 0 0) _ (.slice (some ⟨g4,0,none⟩) 0 0) _ _ _ _ (CpG.of h6)⟩
   · go_simp
     refine hK.out _ _ h0.newA.bel (fun _=>?_);have h1:=h0.newA;obtain ⟨W1,q⟩:∃ X,X=W0.alloc (.cells #[] 119):=⟨_,rfl⟩;obtain ⟨g4,q2⟩:∃ g,g=W0.heap.size:=⟨_,rfl⟩;rw [←q] at h1 ⊢
     try rw [←q2] at h1 ⊢
     clear hK K q q2 h0
     try simp only [Act.put,Yi,Yj,Yk]
     refine Qae (rs:=[0,9]) (by kernel_rfl) (by simp) ?_;refine Qau.cons (o:=_) rfl (fun K hK=>?_) (Qau.cons (o:=_) rfl (fun K hK=>?_) (Qau.nil))
     · go_simp
       refine hK.out _ _ h1.newV.bel (fun _=>?_);have h2:=h1.newV;obtain ⟨W2,q⟩:∃ X,X=W1.alloc (.cells #[] 124):=⟨_,rfl⟩;obtain ⟨g0,q2⟩:∃ g,g=W1.heap.size:=⟨_,rfl⟩;rw [←q] at h2 ⊢
       try rw [←q2] at h2 ⊢
       clear hK K q q2 h1
       try simp only [Act.put,Yi,Yj,Yk]
       refine Qae (rs:=[3,9]) (by kernel_rfl) (by simp) ?_;refine Qau.cons (o:=_) rfl (fun K hK=>?_) (Qau.cons (o:=_) rfl (fun K hK=>?_) (Qau.nil))
       · with_reducible refine Qah (some 9) rfl rfl (.tmp 6) (.tmp 8) 22 rfl 124 _ 3 24 Qfy underlying22 rfl (by omega) rfl rfl h2.v (HV.out W2 h2.bel) (Qan _) (by omega) (by omega) h2.bel.size ?_
         intro X c W3 ho hg hat;rw [Yz,List.nil_append] at ho;have h3:=h2.growV ho hg hat;refine hK.out _ _ h3.bel (fun _=>?_);clear hK K ho hg hat h2;simp only [Act.put,Yi,Yj,Yk,Yz];refine Qae (rs:=[7,9]) (by kernel_rfl) (by simp) ?_;refine Qau.cons (o:=_) rfl (fun K hK=>?_) (Qau.cons (o:=_) rfl (fun K hK=>?_) (Qau.nil))
         · with_reducible refine Qah (some 13) rfl rfl (.tmp 10) (.tmp 12) 23 rfl 119 _ 3 24 Qdx underlying23 rfl (by omega) rfl rfl h3.a (HA.out W3 h3.bel) (Qan _) (by omega) (by omega) h3.bel.size ?_
           intro X c W4 ho hg hat;rw [Yz,List.nil_append] at ho;have h4:=h3.growA ho hg hat;refine hK.out _ _ h4.bel (fun _=>?_);clear hK K ho hg hat h3;simp only [Act.put,Yi,Yj,Yk,Yz];refine Qae (rs:=[8,9]) (by kernel_rfl) (by simp) ?_;refine Qau.cons (o:=_) rfl (fun K hK=>?_) (Qau.cons (o:=_) rfl (fun K hK=>?_) (Qau.nil))
           · go_simp
             refine hK.out _ _ h4.bel (fun _=>?_);have h5:=h4;obtain ⟨W5,rfl⟩:∃ X,X=W4:=⟨_,rfl⟩;clear hK K h4
             try simp only [Act.put,Yi,Yj,Yk]
             refine Qae (rs:=[9]) (by kernel_rfl) (by simp) ?_;refine Qau.cons (o:=_) rfl (fun K hK=>?_) (Qau.nil);go_simp;refine hK.out _ _ h5.newN.bel (fun _=>?_);have h6:=h5.newN;obtain ⟨W6,q⟩:∃ X,X=W5.alloc (.cells #[.slice none 0 0,.slice none 0 0,.slice none 0 0] 26):=⟨_,rfl⟩;obtain ⟨g9,q2⟩:∃ g,g=W5.heap.size:=⟨_,rfl⟩;rw [←q] at h6 ⊢
             try rw [←q2] at h6 ⊢
             clear hK K q q2 h5
             try simp only [Act.put,Yi,Yj,Yk]
             exact ⟨by kernel_rfl,hC.out (.slice (some ⟨g0,0,none⟩) 0 0) _ (.slice (some ⟨g4,0,none⟩) 0 0) _ _ _ _ (CpG.of h6)⟩
           · go_simp
             refine hK.out _ _ h4.newN.bel (fun _=>?_);have h5:=h4.newN;obtain ⟨W5,q⟩:∃ X,X=W4.alloc (.cells #[.slice none 0 0,.slice none 0 0,.slice none 0 0] 26):=⟨_,rfl⟩;obtain ⟨g9,q2⟩:∃ g,g=W4.heap.size:=⟨_,rfl⟩;rw [←q] at h5 ⊢
             try rw [←q2] at h5 ⊢
             clear hK K q q2 h4
             try simp only [Act.put,Yi,Yj,Yk]
             refine Qae (rs:=[8]) (by kernel_rfl) (by simp) ?_;refine Qau.cons (o:=_) rfl (fun K hK=>?_) (Qau.nil);go_simp;refine hK.out _ _ h5.bel (fun _=>?_);have h6:=h5;obtain ⟨W6,rfl⟩:∃ X,X=W5:=⟨_,rfl⟩;clear hK K h5
             try simp only [Act.put,Yi,Yj,Yk]
             exact ⟨by kernel_rfl,hC.out (.slice (some ⟨g0,0,none⟩) 0 0) _ (.slice (some ⟨g4,0,none⟩) 0 0) _ _ _ _ (CpG.of h6)⟩
         · go_simp
           refine hK.out _ _ h3.newN.bel (fun _=>?_);have h4:=h3.newN;obtain ⟨W4,q⟩:∃ X,X=W3.alloc (.cells #[.slice none 0 0,.slice none 0 0,.slice none 0 0] 26):=⟨_,rfl⟩;obtain ⟨g9,q2⟩:∃ g,g=W3.heap.size:=⟨_,rfl⟩;rw [←q] at h4 ⊢
           try rw [←q2] at h4 ⊢
           clear hK K q q2 h3
           try simp only [Act.put,Yi,Yj,Yk]
           refine Qae (rs:=[7]) (by kernel_rfl) (by simp) ?_;refine Qau.cons (o:=_) rfl (fun K hK=>?_) (Qau.nil);with_reducible refine Qah (some 13) rfl rfl (.tmp 10) (.tmp 12) 23 rfl 119 _ 3 24 Qdx underlying23 rfl (by omega) rfl rfl h4.a (HA.out W4 h4.bel) (Qan _) (by omega) (by omega) h4.bel.size ?_
           intro X c W5 ho hg hat;rw [Yz,List.nil_append] at ho;have h5:=h4.growA ho hg hat;refine hK.out _ _ h5.bel (fun _=>?_);clear hK K ho hg hat h4;simp only [Act.put,Yi,Yj,Yk,Yz];refine Qae (rs:=[8]) (by kernel_rfl) (by simp) ?_;refine Qau.cons (o:=_) rfl (fun K hK=>?_) (Qau.nil);go_simp;refine hK.out _ _ h5.bel (fun _=>?_);have h6:=h5;obtain ⟨W6,rfl⟩:∃ X,X=W5:=⟨_,rfl⟩;clear hK K h5
           try simp only [Act.put,Yi,Yj,Yk]
           exact ⟨by kernel_rfl,hC.out (.slice (some ⟨g0,0,none⟩) 0 0) _ (.slice (some ⟨g4,0,none⟩) 0 0) _ _ _ _ (CpG.of h6)⟩
       · go_simp
         refine hK.out _ _ h2.newN.bel (fun _=>?_);have h3:=h2.newN;obtain ⟨W3,q⟩:∃ X,X=W2.alloc (.cells #[.slice none 0 0,.slice none 0 0,.slice none 0 0] 26):=⟨_,rfl⟩;obtain ⟨g9,q2⟩:∃ g,g=W2.heap.size:=⟨_,rfl⟩;rw [←q] at h3 ⊢
         try rw [←q2] at h3 ⊢
         clear hK K q q2 h2
         try simp only [Act.put,Yi,Yj,Yk]
         refine Qae (rs:=[3]) (by kernel_rfl) (by simp) ?_;refine Qau.cons (o:=_) rfl (fun K hK=>?_) (Qau.nil);with_reducible refine Qah (some 9) rfl rfl (.tmp 6) (.tmp 8) 22 rfl 124 _ 3 24 Qfy underlying22 rfl (by omega) rfl rfl h3.v (HV.out W3 h3.bel) (Qan _) (by omega) (by omega) h3.bel.size ?_
         intro X c W4 ho hg hat;rw [Yz,List.nil_append] at ho;have h4:=h3.growV ho hg hat;refine hK.out _ _ h4.bel (fun _=>?_);clear hK K ho hg hat h3;simp only [Act.put,Yi,Yj,Yk,Yz];refine Qae (rs:=[7]) (by kernel_rfl) (by simp) ?_;refine Qau.cons (o:=_) rfl (fun K hK=>?_) (Qau.nil);with_reducible refine Qah (some 13) rfl rfl (.tmp 10) (.tmp 12) 23 rfl 119 _ 3 24 Qdx underlying23 rfl (by omega) rfl rfl h4.a (HA.out W4 h4.bel) (Qan _) (by omega) (by omega) h4.bel.size ?_
         intro X c W5 ho hg hat;rw [Yz,List.nil_append] at ho;have h5:=h4.growA ho hg hat;refine hK.out _ _ h5.bel (fun _=>?_);clear hK K ho hg hat h4;simp only [Act.put,Yi,Yj,Yk,Yz];refine Qae (rs:=[8]) (by kernel_rfl) (by simp) ?_;refine Qau.cons (o:=_) rfl (fun K hK=>?_) (Qau.nil);go_simp;refine hK.out _ _ h5.bel (fun _=>?_);have h6:=h5;obtain ⟨W6,rfl⟩:∃ X,X=W5:=⟨_,rfl⟩;clear hK K h5
         try simp only [Act.put,Yi,Yj,Yk]
         exact ⟨by kernel_rfl,hC.out (.slice (some ⟨g0,0,none⟩) 0 0) _ (.slice (some ⟨g4,0,none⟩) 0 0) _ _ _ _ (CpG.of h6)⟩
     · go_simp
       refine hK.out _ _ h1.newN.bel (fun _=>?_);have h2:=h1.newN;obtain ⟨W2,q⟩:∃ X,X=W1.alloc (.cells #[.slice none 0 0,.slice none 0 0,.slice none 0 0] 26):=⟨_,rfl⟩;obtain ⟨g9,q2⟩:∃ g,g=W1.heap.size:=⟨_,rfl⟩;rw [←q] at h2 ⊢
       try rw [←q2] at h2 ⊢
       clear hK K q q2 h1
       try simp only [Act.put,Yi,Yj,Yk]
       refine Qae (rs:=[0]) (by kernel_rfl) (by simp) ?_;refine Qau.cons (o:=_) rfl (fun K hK=>?_) (Qau.nil);go_simp;refine hK.out _ _ h2.newV.bel (fun _=>?_);have h3:=h2.newV;obtain ⟨W3,q⟩:∃ X,X=W2.alloc (.cells #[] 124):=⟨_,rfl⟩;obtain ⟨g0,q2⟩:∃ g,g=W2.heap.size:=⟨_,rfl⟩;rw [←q] at h3 ⊢
       try rw [←q2] at h3 ⊢
       clear hK K q q2 h2
       try simp only [Act.put,Yi,Yj,Yk]
       refine Qae (rs:=[3]) (by kernel_rfl) (by simp) ?_;refine Qau.cons (o:=_) rfl (fun K hK=>?_) (Qau.nil);with_reducible refine Qah (some 9) rfl rfl (.tmp 6) (.tmp 8) 22 rfl 124 _ 3 24 Qfy underlying22 rfl (by omega) rfl rfl h3.v (HV.out W3 h3.bel) (Qan _) (by omega) (by omega) h3.bel.size ?_
       intro X c W4 ho hg hat;rw [Yz,List.nil_append] at ho;have h4:=h3.growV ho hg hat;refine hK.out _ _ h4.bel (fun _=>?_);clear hK K ho hg hat h3;simp only [Act.put,Yi,Yj,Yk,Yz];refine Qae (rs:=[7]) (by kernel_rfl) (by simp) ?_;refine Qau.cons (o:=_) rfl (fun K hK=>?_) (Qau.nil);with_reducible refine Qah (some 13) rfl rfl (.tmp 10) (.tmp 12) 23 rfl 119 _ 3 24 Qdx underlying23 rfl (by omega) rfl rfl h4.a (HA.out W4 h4.bel) (Qan _) (by omega) (by omega) h4.bel.size ?_
       intro X c W5 ho hg hat;rw [Yz,List.nil_append] at ho;have h5:=h4.growA ho hg hat;refine hK.out _ _ h5.bel (fun _=>?_);clear hK K ho hg hat h4;simp only [Act.put,Yi,Yj,Yk,Yz];refine Qae (rs:=[8]) (by kernel_rfl) (by simp) ?_;refine Qau.cons (o:=_) rfl (fun K hK=>?_) (Qau.nil);go_simp;refine hK.out _ _ h5.bel (fun _=>?_);have h6:=h5;obtain ⟨W6,rfl⟩:∃ X,X=W5:=⟨_,rfl⟩;clear hK K h5
       try simp only [Act.put,Yi,Yj,Yk]
       exact ⟨by kernel_rfl,hC.out (.slice (some ⟨g0,0,none⟩) 0 0) _ (.slice (some ⟨g4,0,none⟩) 0 0) _ _ _ _ (CpG.of h6)⟩
   · go_simp
     refine hK.out _ _ h0.newN.bel (fun _=>?_);have h1:=h0.newN;obtain ⟨W1,q⟩:∃ X,X=W0.alloc (.cells #[.slice none 0 0,.slice none 0 0,.slice none 0 0] 26):=⟨_,rfl⟩;obtain ⟨g9,q2⟩:∃ g,g=W0.heap.size:=⟨_,rfl⟩;rw [←q] at h1 ⊢
     try rw [←q2] at h1 ⊢
     clear hK K q q2 h0
     try simp only [Act.put,Yi,Yj,Yk]
     refine Qae (rs:=[0,4]) (by kernel_rfl) (by simp) ?_;refine Qau.cons (o:=_) rfl (fun K hK=>?_) (Qau.cons (o:=_) rfl (fun K hK=>?_) (Qau.nil))
     · go_simp
       refine hK.out _ _ h1.newV.bel (fun _=>?_);have h2:=h1.newV;obtain ⟨W2,q⟩:∃ X,X=W1.alloc (.cells #[] 124):=⟨_,rfl⟩;obtain ⟨g0,q2⟩:∃ g,g=W1.heap.size:=⟨_,rfl⟩;rw [←q] at h2 ⊢
       try rw [←q2] at h2 ⊢
       clear hK K q q2 h1
       try simp only [Act.put,Yi,Yj,Yk]
       refine Qae (rs:=[3,4]) (by kernel_rfl) (by simp) ?_;refine Qau.cons (o:=_) rfl (fun K hK=>?_) (Qau.cons (o:=_) rfl (fun K hK=>?_) (Qau.nil))
       · with_reducible refine Qah (some 9) rfl rfl (.tmp 6) (.tmp 8) 22 rfl 124 _ 3 24 Qfy underlying22 rfl (by omega) rfl rfl h2.v (HV.out W2 h2.bel) (Qan _) (by omega) (by omega) h2.bel.size ?_
         intro X c W3 ho hg hat;rw [Yz,List.nil_append] at ho;have h3:=h2.growV ho hg hat;refine hK.out _ _ h3.bel (fun _=>?_);clear hK K ho hg hat h2;simp only [Act.put,Yi,Yj,Yk,Yz];refine Qae (rs:=[4]) (by kernel_rfl) (by simp) ?_;refine Qau.cons (o:=_) rfl (fun K hK=>?_) (Qau.nil);go_simp;refine hK.out _ _ h3.newA.bel (fun _=>?_);have h4:=h3.newA;obtain ⟨W4,q⟩:∃ X,X=W3.alloc (.cells #[] 119):=⟨_,rfl⟩;obtain ⟨g4,q2⟩:∃ g,g=W3.heap.size:=⟨_,rfl⟩;rw [←q] at h4 ⊢
         try rw [←q2] at h4 ⊢
         clear hK K q q2 h3
         try simp only [Act.put,Yi,Yj,Yk]
         refine Qae (rs:=[7]) (by kernel_rfl) (by simp) ?_;refine Qau.cons (o:=_) rfl (fun K hK=>?_) (Qau.nil);with_reducible refine Qah (some 13) rfl rfl (.tmp 10) (.tmp 12) 23 rfl 119 _ 3 24 Qdx underlying23 rfl (by omega) rfl rfl h4.a (HA.out W4 h4.bel) (Qan _) (by omega) (by omega) h4.bel.size ?_
         intro X c W5 ho hg hat;rw [Yz,List.nil_append] at ho;have h5:=h4.growA ho hg hat;refine hK.out _ _ h5.bel (fun _=>?_);clear hK K ho hg hat h4;simp only [Act.put,Yi,Yj,Yk,Yz];refine Qae (rs:=[8]) (by kernel_rfl) (by simp) ?_;refine Qau.cons (o:=_) rfl (fun K hK=>?_) (Qau.nil);go_simp;refine hK.out _ _ h5.bel (fun _=>?_);have h6:=h5;obtain ⟨W6,rfl⟩:∃ X,X=W5:=⟨_,rfl⟩;clear hK K h5
         try simp only [Act.put,Yi,Yj,Yk]
         exact ⟨by kernel_rfl,hC.out (.slice (some ⟨g0,0,none⟩) 0 0) _ (.slice (some ⟨g4,0,none⟩) 0 0) _ _ _ _ (CpG.of h6)⟩
       · go_simp
         refine hK.out _ _ h2.newA.bel (fun _=>?_);have h3:=h2.newA;obtain ⟨W3,q⟩:∃ X,X=W2.alloc (.cells #[] 119):=⟨_,rfl⟩;obtain ⟨g4,q2⟩:∃ g,g=W2.heap.size:=⟨_,rfl⟩;rw [←q] at h3 ⊢
         try rw [←q2] at h3 ⊢
         clear hK K q q2 h2
         try simp only [Act.put,Yi,Yj,Yk]
         refine Qae (rs:=[3]) (by kernel_rfl) (by simp) ?_;refine Qau.cons (o:=_) rfl (fun K hK=>?_) (Qau.nil);with_reducible refine Qah (some 9) rfl rfl (.tmp 6) (.tmp 8) 22 rfl 124 _ 3 24 Qfy underlying22 rfl (by omega) rfl rfl h3.v (HV.out W3 h3.bel) (Qan _) (by omega) (by omega) h3.bel.size ?_
         intro X c W4 ho hg hat;rw [Yz,List.nil_append] at ho;have h4:=h3.growV ho hg hat;refine hK.out _ _ h4.bel (fun _=>?_);clear hK K ho hg hat h3;simp only [Act.put,Yi,Yj,Yk,Yz];refine Qae (rs:=[7]) (by kernel_rfl) (by simp) ?_;refine Qau.cons (o:=_) rfl (fun K hK=>?_) (Qau.nil);with_reducible refine Qah (some 13) rfl rfl (.tmp 10) (.tmp 12) 23 rfl 119 _ 3 24 Qdx underlying23 rfl (by omega) rfl rfl h4.a (HA.out W4 h4.bel) (Qan _) (by omega) (by omega) h4.bel.size ?_
         intro X c W5 ho hg hat;rw [Yz,List.nil_append] at ho;have h5:=h4.growA ho hg hat;refine hK.out _ _ h5.bel (fun _=>?_);clear hK K ho hg hat h4;simp only [Act.put,Yi,Yj,Yk,Yz];refine Qae (rs:=[8]) (by kernel_rfl) (by simp) ?_;refine Qau.cons (o:=_) rfl (fun K hK=>?_) (Qau.nil);go_simp;refine hK.out _ _ h5.bel (fun _=>?_);have h6:=h5;obtain ⟨W6,rfl⟩:∃ X,X=W5:=⟨_,rfl⟩;clear hK K h5
         try simp only [Act.put,Yi,Yj,Yk]
         exact ⟨by kernel_rfl,hC.out (.slice (some ⟨g0,0,none⟩) 0 0) _ (.slice (some ⟨g4,0,none⟩) 0 0) _ _ _ _ (CpG.of h6)⟩
     · go_simp
       refine hK.out _ _ h1.newA.bel (fun _=>?_);have h2:=h1.newA;obtain ⟨W2,q⟩:∃ X,X=W1.alloc (.cells #[] 119):=⟨_,rfl⟩;obtain ⟨g4,q2⟩:∃ g,g=W1.heap.size:=⟨_,rfl⟩;rw [←q] at h2 ⊢
       try rw [←q2] at h2 ⊢
       clear hK K q q2 h1
       try simp only [Act.put,Yi,Yj,Yk]
       refine Qae (rs:=[0]) (by kernel_rfl) (by simp) ?_;refine Qau.cons (o:=_) rfl (fun K hK=>?_) (Qau.nil);go_simp;refine hK.out _ _ h2.newV.bel (fun _=>?_);have h3:=h2.newV;obtain ⟨W3,q⟩:∃ X,X=W2.alloc (.cells #[] 124):=⟨_,rfl⟩;obtain ⟨g0,q2⟩:∃ g,g=W2.heap.size:=⟨_,rfl⟩;rw [←q] at h3 ⊢
       try rw [←q2] at h3 ⊢
       clear hK K q q2 h2
       try simp only [Act.put,Yi,Yj,Yk]
       refine Qae (rs:=[3]) (by kernel_rfl) (by simp) ?_;refine Qau.cons (o:=_) rfl (fun K hK=>?_) (Qau.nil);with_reducible refine Qah (some 9) rfl rfl (.tmp 6) (.tmp 8) 22 rfl 124 _ 3 24 Qfy underlying22 rfl (by omega) rfl rfl h3.v (HV.out W3 h3.bel) (Qan _) (by omega) (by omega) h3.bel.size ?_
       intro X c W4 ho hg hat;rw [Yz,List.nil_append] at ho;have h4:=h3.growV ho hg hat;refine hK.out _ _ h4.bel (fun _=>?_);clear hK K ho hg hat h3;simp only [Act.put,Yi,Yj,Yk,Yz];refine Qae (rs:=[7]) (by kernel_rfl) (by simp) ?_;refine Qau.cons (o:=_) rfl (fun K hK=>?_) (Qau.nil);with_reducible refine Qah (some 13) rfl rfl (.tmp 10) (.tmp 12) 23 rfl 119 _ 3 24 Qdx underlying23 rfl (by omega) rfl rfl h4.a (HA.out W4 h4.bel) (Qan _) (by omega) (by omega) h4.bel.size ?_
       intro X c W5 ho hg hat;rw [Yz,List.nil_append] at ho;have h5:=h4.growA ho hg hat;refine hK.out _ _ h5.bel (fun _=>?_);clear hK K ho hg hat h4;simp only [Act.put,Yi,Yj,Yk,Yz];refine Qae (rs:=[8]) (by kernel_rfl) (by simp) ?_;refine Qau.cons (o:=_) rfl (fun K hK=>?_) (Qau.nil);go_simp;refine hK.out _ _ h5.bel (fun _=>?_);have h6:=h5;obtain ⟨W6,rfl⟩:∃ X,X=W5:=⟨_,rfl⟩;clear hK K h5
       try simp only [Act.put,Yi,Yj,Yk]
       exact ⟨by kernel_rfl,hC.out (.slice (some ⟨g0,0,none⟩) 0 0) _ (.slice (some ⟨g4,0,none⟩) 0 0) _ _ _ _ (CpG.of h6)⟩
 · rintro v6 v9 v10 v13 v14 v3 W ⟨V,A5,c1,c2,g,rfl,rfl,rfl,rfl,hS⟩
   simp only [Act.put,Yi,Yj,Yk];obtain ⟨hN9,hg9,hgV,hgA⟩:=hS.nw g rfl;obtain ⟨k0,k1,k2⟩:=hN9.three;have f0:=hN9.frozen 0;have f1:=hN9.frozen 1;have f2:=hN9.frozen 2;have hbW:Below w.heap.size w W:=Zb hb1 hS.bel;refine Zk 10 (fun K hK=>?_);go_simp;refine hK.out _ _ (((hS.bel.setCell hg9 _).setCell hg9 _).setCell hg9 _) (fun _=>?_);clear hK K;refine Zd ?_;obtain ⟨w3,hw3⟩:∃ X,X=((W.setCell ⟨g,0,none⟩ (.slice V n c1)).setCell ⟨g,1,none⟩ (.slice A5 m c2)).setCell ⟨g,2,none⟩ (.slice none 0 0):=⟨_,rfl⟩;rw [←hw3];have hb3:Below w1.heap.size w1 w3:=by rw [hw3];exact ((hS.bel.setCell hg9 _).setCell hg9 _).setCell hg9 _
   have hN3:Blk w3 g 26 #[.slice V n c1,.slice A5 m c2,.slice none 0 0]:=by rw [hw3];exact ((hN9.set_ 0 _).set_ 1 _).set_ 2 _
   have far3:∀ {e:TypeId} {s n' c':Nat} {X:Option Addr} {xs:List Value},Own W w1.heap.size e s X n' c' xs→Qac X≠some g→Own w3 w1.heap.size e s X n' c' xs:=fun h hne=>by
    rw [hw3];exact ((h.far (Qaa _ g 0 _) (.inr hne)).far (Qaa _ g 1 _) (.inr hne)).far (Qaa _ g 2 _) (.inr hne)
   have hV3:=far3 hS.v hgV;have hA3:=far3 hS.a hgA;have HDJ:=Zh hS.dj;clear hw3 far3 hS hN9 k0 k1 k2 f0 f1 f2 hbW;have hJ3:=hJ.below hb3 hJ.lt;have hR3:=hR.below hb3 hR.lt;have hB3:=Zb hb1 hb3;have hgl:=hN3.lt;have hzw:w.heap.size+2≤w3.heap.size:=by have:=hb3.size;omega
   have HVL:=Zh (fun b hb=>(hV3.lt b hb).2);have HAL:=Zh (fun b hb=>(hA3.lt b hb).2);have hgw:w.heap.size+2≤g:=by omega
   clear hb3 hJ hR hb1 HSX HV HA hg9
   go_wp2_with fail
   go_loopw [4] (fun q X=>w3.heap.size≤X.heap.size∧Below w.heap.size w X∧Blk X w.heap.size 26 #[.slice A n c,.slice B m d,.slice C k e]∧Blk X (w.heap.size+1) 26 #[.slice none 0 0,.slice none 0 0,.slice none 0 0]∧Own X w1.heap.size 124 3 V n c1 (Qam N.vs)∧Own X w1.heap.size 119 3 A5 m c2 (Qam N.ar)∧∃ (j:Nat) (C3:Option Addr) (e3:Nat) (xs:List Value),j≤k∧q=.int .i64 j∧Blk X g 26 #[.slice V n c1,.slice A5 m c2,.slice C3 j e3]∧YwR X w3.heap.size C3 j e3 xs (N.ts.take j)) (fun q _=>k-(intOf q).toNat)
   case atStart=>exact ⟨Zn _,hB3,hJ3,hR3,hV3,hA3,0,none,0,[],Nat.zero_le _,rfl,hN3,by simpa using YwR.nil _ _⟩
   case round =>
    clear hB3 hJ3 hR3 hV3 hA3 hN3;obtain ⟨hszr,hbl,hJ,hR,hVo,hAo,j,C3,e3,xs,hj,rfl,hK0,hown⟩:=hrel;obtain ⟨j0,j1,j2⟩:=hJ.three
    by_cases hlt:j<k
    · obtain ⟨sb,so,t,rfl,ht,cx,cy,A',n',c',cz,hr,hc1',hc2'⟩:=(HY.out.below hbl).at_ hlt
      have HNX:=Zh (show N.ts.take (j+1)=N.ts.take j ++[t] by
       rw [Yf (Zs ht).1,(Zs ht).2])
      have hn':n'≤1000000:=by have:=HC.out t (Zm ht);rw [hr.1] at this;exact this
      have HRT:=Zh (show ∀ X,Below wr.heap.size wr X→Rds X 1 A' n' (Qaf t.costs) from fun X hX=>(hr.below hX).rdsI)
      have i3:(0:Int)≤(j:Int):=by omega
      have i4:(j:Int)<(k:Int):=by omega
      clear ht hr j0 j1
      go_wp2_with fail
      obtain ⟨gt,hgt⟩:∃ x,x=wr.heap.size:=⟨_,rfl⟩;obtain ⟨Wa,hWa⟩:∃ x,x=wr.alloc (.cells #[.int .i64 t.ins,.int .i64 t.outs,.slice A' n' c'] 122):=⟨_,rfl⟩;rw [←hWa]
      try rw [←hgt]
      skip
      have hgl2:g<wr.heap.size:=by omega
      have hTa:Blk Wa gt 122 #[.int .i64 t.ins,.int .i64 t.outs,.slice A' n' c']:=by rw [hWa,hgt];exact Blk.new _ _ _
      have hba:Below wr.heap.size wr Wa:=by rw [hWa];exact Bel.alloc (Zr _ _)
      clear hWa cx cy cz j2;have hJa:=hJ.below hba hJ.lt;have hRa:=hR.below hba hR.lt;have hVa:=hVo.below hba;have hAa:=hAo.below hba;have hKa:=hK0.below hba hK0.lt;have hYa:=hown.below hba;have hbla:=Zb hbl hba;have hCgt:Qac C3≠some gt:=fun e=>by have:=(hown.1.lt gt e).2;omega
      have hsza:w3.heap.size≤Wa.heap.size:=by have:=hba.size;omega
      have HRA:=Zh (show ∀ X,Below Wa.heap.size Wa X→Rds X 1 A' n' (Qaf t.costs) from fun X hX=>HRT.out X (Zb hba hX))
      have hgtg:gt≠g:=by omega
      clear hJ hR hVo hAo hK0 hown hbl HRT hszr hgt;have hKc:=hKa.three.2.2;have HSX:=Zh (show ∀ X,Blk X gt 122 #[.int .i64 t.ins,.int .i64 t.outs,.slice A' n' c']→X.cell? ⟨gt,0,none⟩=some (.int .i64 t.ins)∧X.cell? ⟨gt,1,none⟩=some (.int .i64 t.outs)∧X.cell? ⟨gt,2,none⟩=some (.slice A' n' c') from fun X hX=>hX.three)
      refine wp_region_held_drew (S:=fun X=>Blk X gt 122 #[.int .i64 t.ins,.int .i64 t.outs,.slice A' n' c']) (by kernel_rfl) hTa.drew (fun _=>?_);refine tz 0 27 ?_;refine tz 2 29 ?_;refine tz 3 30 ?_;refine tz 4 31 ?_;refine tz 5 32 ?_;refine tz 7 34 ?_;refine tz 8 35 ?_;have u0:=CyS.start Wa;obtain ⟨U0,q⟩:∃ X,X=Wa.drew:=⟨_,rfl⟩;rw [←q] at u0 ⊢;clear q;refine Qpl (G:=CyG Wa C3 j e3 n' t) (L:=#[true,true,true,true,true,true,true,true,true,true,true,true,false,false,false]) (f0:=3) (some 28) (some 33) (some 36) (some 37) (some 38) rfl (fun C0 hC=>?_) ?_
      · skip
        refine Qae (rs:=[1,6]) (by kernel_rfl) (by simp) ?_;refine Qau.cons (o:=_) rfl (fun K hK=>?_) (Qau.cons (o:=_) rfl (fun K hK=>?_) (Qau.nil))
        · have kk:=Zc u0.bel (Zn _) hKc
          go_simp;clear kk;refine hK.out _ _ (hTa.below u0.bel hTa.lt) (fun _=>?_);have u1:=u0;obtain ⟨U1,rfl⟩:∃ X,X=U0:=⟨_,rfl⟩;clear hK K u0
          try simp only [Act.put,Yi,Yj,Yk]
          refine Qae (rs:=[6]) (by kernel_rfl) (by simp) ?_;refine Qau.cons (o:=_) rfl (fun K hK=>?_) (Qau.nil);go_simp;have u2:=u1.newR;refine hK.out _ _ (hTa.below u2.bel hTa.lt) (fun _=>?_);obtain ⟨U2,q⟩:∃ X,X=U1.alloc (.cells #[] 2):=⟨_,rfl⟩;obtain ⟨g6,q2⟩:∃ g,g=U1.heap.size:=⟨_,rfl⟩;rw [←q] at u2 ⊢
          try rw [←q2] at u2 ⊢
          clear hK K q q2 u1
          try simp only [Act.put,Yi,Yj,Yk]
          refine Qae (rs:=[9]) (by kernel_rfl) (by simp) ?_;refine Qau.cons (o:=_) rfl (fun K hK=>?_) (Qau.nil);with_reducible refine Qah (some 36) rfl rfl (.tmp 33) (.tmp 35) 36 rfl 2 _ 1 8 Qjh underlying36 rfl (by omega) rfl rfl u2.r (HRA.out U2 u2.bel) (Qap _) (by omega) (by omega) u2.bel.size ?_
          intro R2 rc U3 ho hg _;rw [Yz,List.nil_append] at ho;have u3:=u2.growR ho hg;refine hK.out _ _ (hTa.below u3.bel hTa.lt) (fun _=>?_);clear hK K ho hg u2;simp only [Act.put,Yi,Yj,Yk,Yz];refine Qae (rs:=[10]) (by kernel_rfl) (by simp) ?_;refine Qau.cons (o:=_) rfl (fun K hK=>?_) (Qau.nil);go_simp;refine hK.out _ _ (hTa.below u3.bel hTa.lt) (fun _=>?_);have u4:=u3;obtain ⟨U4,rfl⟩:∃ X,X=U3:=⟨_,rfl⟩;clear hK K u3
          try simp only [Act.put,Yi,Yj,Yk]
          refine Qae (rs:=[11]) (by kernel_rfl) (by simp) ?_;refine Qau.cons (o:=_) rfl (fun K hK=>?_) (Qau.nil);go_simp;have u5:=u4.newT (.int .i64 t.ins) (.int .i64 t.outs) (.slice R2 n' rc);refine hK.out _ _ (hTa.below u5.bel hTa.lt) (fun _=>?_);obtain ⟨U5,q⟩:∃ X,X=U4.alloc (.cells #[.int .i64 t.ins,.int .i64 t.outs,.slice R2 n' rc] 122):=⟨_,rfl⟩;obtain ⟨g11,q2⟩:∃ g,g=U4.heap.size:=⟨_,rfl⟩;rw [←q] at u5 ⊢
          try rw [←q2] at u5 ⊢
          clear hK K q q2 u4
          try simp only [Act.put,Yi,Yj,Yk]
          exact ⟨by kernel_rfl,hC.out _ (.slice (some ⟨g6,0,none⟩) 0 0) _ _ _ _ (CyG.of u5)⟩
        · go_simp
          have u1:=u0.newR;refine hK.out _ _ (hTa.below u1.bel hTa.lt) (fun _=>?_);obtain ⟨U1,q⟩:∃ X,X=U0.alloc (.cells #[] 2):=⟨_,rfl⟩;obtain ⟨g6,q2⟩:∃ g,g=U0.heap.size:=⟨_,rfl⟩;rw [←q] at u1 ⊢
          try rw [←q2] at u1 ⊢
          clear hK K q q2 u0
          try simp only [Act.put,Yi,Yj,Yk]
          refine Qae (rs:=[1,9]) (by kernel_rfl) (by simp) ?_;refine Qau.cons (o:=_) rfl (fun K hK=>?_) (Qau.cons (o:=_) rfl (fun K hK=>?_) (Qau.nil))
          · have kk:=Zc u1.bel (Zn _) hKc
            go_simp;clear kk;refine hK.out _ _ (hTa.below u1.bel hTa.lt) (fun _=>?_);have u2:=u1;obtain ⟨U2,rfl⟩:∃ X,X=U1:=⟨_,rfl⟩;clear hK K u1
            try simp only [Act.put,Yi,Yj,Yk]
            refine Qae (rs:=[9]) (by kernel_rfl) (by simp) ?_;refine Qau.cons (o:=_) rfl (fun K hK=>?_) (Qau.nil);with_reducible refine Qah (some 36) rfl rfl (.tmp 33) (.tmp 35) 36 rfl 2 _ 1 8 Qjh underlying36 rfl (by omega) rfl rfl u2.r (HRA.out U2 u2.bel) (Qap _) (by omega) (by omega) u2.bel.size ?_
            intro R2 rc U3 ho hg _;rw [Yz,List.nil_append] at ho;have u3:=u2.growR ho hg;refine hK.out _ _ (hTa.below u3.bel hTa.lt) (fun _=>?_);clear hK K ho hg u2;simp only [Act.put,Yi,Yj,Yk,Yz];refine Qae (rs:=[10]) (by kernel_rfl) (by simp) ?_;refine Qau.cons (o:=_) rfl (fun K hK=>?_) (Qau.nil);go_simp;refine hK.out _ _ (hTa.below u3.bel hTa.lt) (fun _=>?_);have u4:=u3;obtain ⟨U4,rfl⟩:∃ X,X=U3:=⟨_,rfl⟩;clear hK K u3
            try simp only [Act.put,Yi,Yj,Yk]
            refine Qae (rs:=[11]) (by kernel_rfl) (by simp) ?_;refine Qau.cons (o:=_) rfl (fun K hK=>?_) (Qau.nil);go_simp;have u5:=u4.newT (.int .i64 t.ins) (.int .i64 t.outs) (.slice R2 n' rc);refine hK.out _ _ (hTa.below u5.bel hTa.lt) (fun _=>?_);obtain ⟨U5,q⟩:∃ X,X=U4.alloc (.cells #[.int .i64 t.ins,.int .i64 t.outs,.slice R2 n' rc] 122):=⟨_,rfl⟩;obtain ⟨g11,q2⟩:∃ g,g=U4.heap.size:=⟨_,rfl⟩;rw [←q] at u5 ⊢
            try rw [←q2] at u5 ⊢
            clear hK K q q2 u4
            try simp only [Act.put,Yi,Yj,Yk]
            exact ⟨by kernel_rfl,hC.out _ (.slice (some ⟨g6,0,none⟩) 0 0) _ _ _ _ (CyG.of u5)⟩
          · with_reducible refine Qah (some 36) rfl rfl (.tmp 33) (.tmp 35) 36 rfl 2 _ 1 8 Qjh underlying36 rfl (by omega) rfl rfl u1.r (HRA.out U1 u1.bel) (Qap _) (by omega) (by omega) u1.bel.size ?_
            intro R2 rc U2 ho hg _;rw [Yz,List.nil_append] at ho;have u2:=u1.growR ho hg;refine hK.out _ _ (hTa.below u2.bel hTa.lt) (fun _=>?_);clear hK K ho hg u1;simp only [Act.put,Yi,Yj,Yk,Yz];refine Qae (rs:=[1,10]) (by kernel_rfl) (by simp) ?_;refine Qau.cons (o:=_) rfl (fun K hK=>?_) (Qau.cons (o:=_) rfl (fun K hK=>?_) (Qau.nil))
            · have kk:=Zc u2.bel (Zn _) hKc
              go_simp;clear kk;refine hK.out _ _ (hTa.below u2.bel hTa.lt) (fun _=>?_);have u3:=u2;obtain ⟨U3,rfl⟩:∃ X,X=U2:=⟨_,rfl⟩;clear hK K u2
              try simp only [Act.put,Yi,Yj,Yk]
              refine Qae (rs:=[10]) (by kernel_rfl) (by simp) ?_;refine Qau.cons (o:=_) rfl (fun K hK=>?_) (Qau.nil);go_simp;refine hK.out _ _ (hTa.below u3.bel hTa.lt) (fun _=>?_);have u4:=u3;obtain ⟨U4,rfl⟩:∃ X,X=U3:=⟨_,rfl⟩;clear hK K u3
              try simp only [Act.put,Yi,Yj,Yk]
              refine Qae (rs:=[11]) (by kernel_rfl) (by simp) ?_;refine Qau.cons (o:=_) rfl (fun K hK=>?_) (Qau.nil);go_simp;have u5:=u4.newT (.int .i64 t.ins) (.int .i64 t.outs) (.slice R2 n' rc);refine hK.out _ _ (hTa.below u5.bel hTa.lt) (fun _=>?_);obtain ⟨U5,q⟩:∃ X,X=U4.alloc (.cells #[.int .i64 t.ins,.int .i64 t.outs,.slice R2 n' rc] 122):=⟨_,rfl⟩;obtain ⟨g11,q2⟩:∃ g,g=U4.heap.size:=⟨_,rfl⟩;rw [←q] at u5 ⊢
              try rw [←q2] at u5 ⊢
              clear hK K q q2 u4
              try simp only [Act.put,Yi,Yj,Yk]
              exact ⟨by kernel_rfl,hC.out _ (.slice (some ⟨g6,0,none⟩) 0 0) _ _ _ _ (CyG.of u5)⟩
            · go_simp
              refine hK.out _ _ (hTa.below u2.bel hTa.lt) (fun _=>?_);have u3:=u2;obtain ⟨U3,rfl⟩:∃ X,X=U2:=⟨_,rfl⟩;clear hK K u2
              try simp only [Act.put,Yi,Yj,Yk]
              refine Qae (rs:=[1,11]) (by kernel_rfl) (by simp) ?_;refine Qau.cons (o:=_) rfl (fun K hK=>?_) (Qau.cons (o:=_) rfl (fun K hK=>?_) (Qau.nil))
              · have kk:=Zc u3.bel (Zn _) hKc
                go_simp;clear kk;refine hK.out _ _ (hTa.below u3.bel hTa.lt) (fun _=>?_);have u4:=u3;obtain ⟨U4,rfl⟩:∃ X,X=U3:=⟨_,rfl⟩;clear hK K u3
                try simp only [Act.put,Yi,Yj,Yk]
                refine Qae (rs:=[11]) (by kernel_rfl) (by simp) ?_;refine Qau.cons (o:=_) rfl (fun K hK=>?_) (Qau.nil);go_simp;have u5:=u4.newT (.int .i64 t.ins) (.int .i64 t.outs) (.slice R2 n' rc);refine hK.out _ _ (hTa.below u5.bel hTa.lt) (fun _=>?_);obtain ⟨U5,q⟩:∃ X,X=U4.alloc (.cells #[.int .i64 t.ins,.int .i64 t.outs,.slice R2 n' rc] 122):=⟨_,rfl⟩;obtain ⟨g11,q2⟩:∃ g,g=U4.heap.size:=⟨_,rfl⟩;rw [←q] at u5 ⊢
                try rw [←q2] at u5 ⊢
                clear hK K q q2 u4
                try simp only [Act.put,Yi,Yj,Yk]
                exact ⟨by kernel_rfl,hC.out _ (.slice (some ⟨g6,0,none⟩) 0 0) _ _ _ _ (CyG.of u5)⟩
              · go_simp
                have u4:=u3.newT (.int .i64 t.ins) (.int .i64 t.outs) (.slice R2 n' rc);refine hK.out _ _ (hTa.below u4.bel hTa.lt) (fun _=>?_);obtain ⟨U4,q⟩:∃ X,X=U3.alloc (.cells #[.int .i64 t.ins,.int .i64 t.outs,.slice R2 n' rc] 122):=⟨_,rfl⟩;obtain ⟨g11,q2⟩:∃ g,g=U3.heap.size:=⟨_,rfl⟩;rw [←q] at u4 ⊢
                try rw [←q2] at u4 ⊢
                clear hK K q q2 u3
                try simp only [Act.put,Yi,Yj,Yk]
                refine Qae (rs:=[1]) (by kernel_rfl) (by simp) ?_;refine Qau.cons (o:=_) rfl (fun K hK=>?_) (Qau.nil);have kk:=Zc u4.bel (Zn _) hKc;go_simp;clear kk;refine hK.out _ _ (hTa.below u4.bel hTa.lt) (fun _=>?_);have u5:=u4;obtain ⟨U5,rfl⟩:∃ X,X=U4:=⟨_,rfl⟩;clear hK K u4
                try simp only [Act.put,Yi,Yj,Yk]
                exact ⟨by kernel_rfl,hC.out _ (.slice (some ⟨g6,0,none⟩) 0 0) _ _ _ _ (CyG.of u5)⟩
      · rintro v28 v33 v36 v37 v38 W9 ⟨A2,c2',g11,rfl,rfl,rfl,rfl,hS9⟩
        simp only [Act.put,Yi,Yj,Yk];have hb9:=hS9.bel;have hyW:=hYa.below hb9;have hVW:=hVa.below hb9;have hAW:=hAa.below hb9;have hJW:=hJa.below hb9 hJa.lt;have hRW:=hRa.below hb9 hRa.lt;have hKW:=hKa.below hb9 hKa.lt;have hTW:=hTa.below hb9 hTa.lt;have hblW:=Zb hbla hb9
        have hrdW:Rds W9 3 (some ⟨g11,0,none⟩) 1 [.int .i64 t.ins,.int .i64 t.outs,.slice A2 n' c2']:=by
         rcases hS9.t1 with h|h
         · cases h
         · exact h
        have hcW:=hS9.r.rds.rdI;have hcapW:=hS9.r.cap;have hcapM:=hS9.r.capMax
        have hclW:∀ b,Qac A2=some b→w3.heap.size≤b∧b<W9.heap.size∧Qac C3≠some b:=fun b hb=>by
         have h1:=hS9.r.lt b hb;refine ⟨by omega,h1.2,fun e=>?_⟩;have h2:=(hYa.1.lt b e).2;omega
        have hszW:w3.heap.size≤W9.heap.size:=by have:=hb9.size;omega
        have HYY:=Zh hyW;have hownY:=hyW.1
        have HONE:=Zh (show ∀ u∈[Value.int .i64 t.ins,.int .i64 t.outs,.slice A2 n' c2'],u.oneCell'=true from fun u hu=>by
         simp at hu
         rcases hu with rfl|rfl|rfl <;> rfl)
        clear hyW hS9 hb9 hYa hVa hAa hJa hRa hKa hTa hbla;refine Zk 12 (fun K hK=>?_);with_reducible refine Qah (some 39) rfl rfl (.tmp 28) (.tmp 38) 24 rfl 122 _ 3 40 infoRT underlying24 rfl (by omega) rfl rfl hownY hrdW HONE.out (by omega) (by omega) hszW ?_
        intro Y' c' w' hown' hg hat;have hb6:Below w.heap.size w w':=Zo hblW hg (hownY.mono (by omega)) (by omega);have hJ':=hJW.grown hg (hownY.ne (by omega));have hR':=hRW.grown hg (hownY.ne (by omega));have hK':=hKW.grown hg (hownY.ne (by omega));have hT':=hTW.grown hg hCgt;have hV':=hVW.far hg (Own.apart HVL.out hownY);have hA':=hAW.far hg (Own.apart HAL.out hownY);have hsz':w3.heap.size≤w'.heap.size:=Yx hszW hg.size;have HYN:=Zh (HYY.out.push hown' hg hat hcW hclW hcapW hcapM);clear hownY hrdW hblW hJW hRW hKW hTW hg hVW hAW hclW hcW hown' hat HYY hcapW hcapM hCgt;refine hK.out _ _ hT' (fun _=>?_);clear hK K;simp only [Act.put,Yi,Yj,Yk];refine tz 13 40 ?_;obtain ⟨k3a,k3b,k3c⟩:=hK'.three;have kf':=hK'.frozen 2;refine Zk 14 (fun K hK=>?_);go_simp;refine hK.out _ _ (hT'.far hgtg _) (fun _=>?_);clear hK K;refine Zd ?_;have HK2:=Zh (hK'.set_ 2 (.slice Y' (j+1) c'));have HV2:=Zh (hV'.far (Qaa w' g 2 (.slice Y' (j+1) c')) (.inr hgV));have HA2:=Zh (hA'.far (Qaa w' g 2 (.slice Y' (j+1) c')) (.inr hgA));have HY2:=Zh (HYN.out.far (Qaa w' g 2 (.slice Y' (j+1) c')) (by omega));have hb7:Below w.heap.size w (w'.setCell ⟨g,2,none⟩ (.slice Y' (j+1) c')):=hb6.setCell (by simp only;omega) _;have hJ7:Blk (w'.setCell ⟨g,2,none⟩ (.slice Y' (j+1) c')) w.heap.size 26 #[.slice A n c,.slice B m d,.slice (some ⟨sb,so,none⟩) k e]:=hJ'.far (by simp only;omega) _;have hR7:=hR'.far (p:=⟨g,2,none⟩) (by simp only;omega) (.slice Y' (j+1) c');clear hV' hA' hK' k3a k3b k3c kf' hT' hJ' hR' hb6
        go_wp2_with fail
        go_roundw
        case rel=>exact ⟨(by simp [World.setCell];omega),hb7,hJ7,hR7,HV2.out,HA2.out,j+1,Y',c',_,by omega,by go_num,HK2.out,by rw [HNX.out];exact HY2.out⟩
        case measure=>simp [intOf];omega
    · obtain rfl:k=j:=by omega
      rw [Ye (by rw [HY.out.1];exact Zn _)] at hown;obtain ⟨q0,q1,q2⟩:=hK0.three;have f0:=hR.frozen 0;have f1:=hR.frozen 1;have f2:=hR.frozen 2;obtain ⟨r0,r1,r2⟩:=hR.three;have hz1':w.heap.size+2≤w1.heap.size:=by omega
      have HV5:=Zh ((((hVo.far (Qaa wr (w.heap.size+1) 0 (.slice V n c1)) (.inr (hVo.ne (by omega)))).far (Qaa _ (w.heap.size+1) 1 (.slice A5 m c2)) (.inr (hVo.ne (by omega)))).far (Qaa _ (w.heap.size+1) 2 (.slice C3 k e3)) (.inr (hVo.ne (by omega)))).mono (show w.heap.size≤w1.heap.size by omega))
      have HA5:=Zh ((((hAo.far (Qaa wr (w.heap.size+1) 0 (.slice V n c1)) (.inr (hAo.ne (by omega)))).far (Qaa _ (w.heap.size+1) 1 (.slice A5 m c2)) (.inr (hAo.ne (by omega)))).far (Qaa _ (w.heap.size+1) 2 (.slice C3 k e3)) (.inr (hAo.ne (by omega)))).mono (show w.heap.size≤w1.heap.size by omega))
      have HY5:=Zh (((hown.far (Qaa wr (w.heap.size+1) 0 (.slice V n c1)) (by omega)).far (Qaa _ (w.heap.size+1) 1 (.slice A5 m c2)) (by omega)).far (Qaa _ (w.heap.size+1) 2 (.slice C3 k e3)) (by omega));have hb5:Below w.heap.size w (((wr.setCell ⟨w.heap.size+1,0,none⟩ (.slice V n c1)).setCell ⟨w.heap.size+1,1,none⟩ (.slice A5 m c2)).setCell ⟨w.heap.size+1,2,none⟩ (.slice C3 k e3)):=((hbl.setCell (by simp only;omega) _).setCell (by simp only;omega) _).setCell (by simp only;omega) _;clear hVo hAo hown j0 j1 hR hbl
      go_wp2_with fail
      refine bodyPost_ret (v:=.agg #[.slice V n c1,.slice A5 m c2,.slice C3 k e3]) (by simp [results,results92,go_sem,r0,r1,r2]) rfl ?_;exact ⟨V,A5,C3,c1,c2,e3,w3.heap.size,xs,rfl,by omega,HV5.out,HA5.out,HY5.out,HDJ.out,HVL.out,HAL.out,hb5⟩
end Go.Proofs.YtdheeddnkdhfeaaGreatDoor
