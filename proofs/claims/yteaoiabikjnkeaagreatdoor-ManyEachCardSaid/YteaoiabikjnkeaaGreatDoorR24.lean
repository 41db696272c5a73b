/- Parts of the proof: AsP, RoP, RfI, RoQ, RfC, RoM, RoR, AsQ. -/
import Derived.Test.YteaoiabikjnkeaaGreatDoorR1
import Derived.Test.YteaoiabikjnkeaaGreatDoorR4
import Derived.Test.YteaoiabikjnkeaaGreatDoorR8
import Derived.Test.YteaoiabikjnkeaaGreatDoorR9
import Derived.Test.YteaoiabikjnkeaaGreatDoorR17
import Derived.Test.YteaoiabikjnkeaaGreatDoorR18
import Derived.Test.YteaoiabikjnkeaaGreatDoorR23
namespace Go.Proofs.YteaoiabikjnkeaaGreatDoor
open Go.RowKit Go.Proofs.Tryz
def StW (N:Qap):Qbx:=fun a b d=>∃ y,N.ar[b]?=some y∧Qau N a b≠1152921504606846976∧y.2.2≠1152921504606846976∧d=Qau N a b+y.2.2
theorem StA.all {N:Qap}{mk:List Bool}{a b:Nat}{d:Int}(h:StA N mk a b d):StW N a b d:=by
 obtain ⟨y,h1,h2,h3,_,_,h4⟩:=h;exact ⟨y,h1,h2,h3,h4⟩
def Qfb (ls:List (List Int)) (i:Nat) (v:Int) (av:List Int):Prop:=∃ l,ls[i]?=some l∧∀ x∈av,Qad l v≠Qad l x
noncomputable def Qqo (ls:List (List Int)) (v:Int) (av:List Int):Nat→Nat
 | 0=>0
 | n+1=>by classical exact if Qfb ls n v av then n+1 else Qqo ls v av n
noncomputable def Qhu (ls:List (List Int)) (v:Int) (av:List Int):Nat:=Qqo ls v av ls.length
section
variable {ls:List (List Int)} {v:Int} {av:List Int}
theorem Qrp:∀ n j,Qqo ls v av n=j+1→Qfb ls j v av
 | 0,j,h=>by unfold Qqo at h;omega
 | n+1,j,h=>by
  unfold Qqo at h
  split at h
  · rename_i h1
    obtain rfl:n=j:=by omega
    exact h1
  · exact Qrp n j h
theorem Qrv:∀ n j,j<n→Qfb ls j v av→j+1≤Qqo ls v av n
 | 0,j,h,_=>by omega
 | n+1,j,h,h1=>by
  unfold Qqo
  split
  · omega
  · rename_i h2
    refine Qrv n j ?_ h1
    by_cases e:j=n
    · subst e;exact absurd h1 h2
    · omega
theorem Qed {j:Nat}(h:Qhu ls v av=j+1):Qfb ls j v av:=Qrp _ _ h
theorem Qng {j:Nat}(h:Qfb ls j v av):j+1≤Qhu ls v av:=by
 obtain ⟨l,hl,h1⟩:=id h;exact Qrv _ _ (Zs hl).1 ⟨l,hl,h1⟩
end
theorem Qmt {n:Nat} {ls:List (List Int)} (hP:Qbn n ls) {i:Nat} {l:List Int} (hi:ls[i]?=some l) {u v:Nat} (hu:u<n) (hv:v<n) (h:Qad l (u:Int)=Qad l (v:Int)):∀ (k:Nat) (l':List Int),ls[i+k]?=some l'→Qad l' (u:Int)=Qad l' (v:Int)
 | 0,l',hl=>by
  rw [Nat.add_zero,hi] at hl
  cases hl
  exact h
 | k+1,l',hl=>by
  obtain ⟨m,hm⟩:∃ m,ls[i+k]?=some m:=⟨_,Zg (by have:=(Zs hl).1;omega)⟩;have ih:=Qmt hP hi hu hv h k m hm
  apply Classical.byContradiction
  intro hne;exact Qfd (hP.nest (i+k) m l' hm hl) (hP.lvl l' (Zm hl)).len (hP.lvl m (Zm hm)).len hu hv hne ih
def HSt (N:Qap) (ls:List (List Int)) (av:List Int):Qbx:=fun a b d =>
 (Qhu ls (toV N a) av=0∧StW N a b d) ∨
 ∃ j l y z v,Qhu ls (toV N a) av=j+1∧ls[j]?=some l∧N.ar[a]?=some y∧N.ar[b]?=some z∧Qad l y.1≠Qad l y.2.1∧Qad l z.1=Qad l y.2.1∧Qad l z.2.1≠Qad l y.2.1∧z.2.2≠1152921504606846976∧Qgn N (Qel l (Qad l y.2.1)) a b v∧v≠1152921504606846976∧d=v+z.2.2
section
variable {N:Qap} {ls:List (List Int)} {av:List Int} {s t:Nat}
theorem StW.ends {a b:Nat}{d:Int}(h:StW N a b d):∃ x y,N.ar[a]?=some x∧N.ar[b]?=some y∧x.2.1=y.1∧Qau N a b≠1152921504606846976∧y.2.2≠1152921504606846976∧d=Qau N a b+y.2.2:=by
 obtain ⟨y,hy,h1,h2,h3⟩:=h;obtain ⟨x,y',hx,hy',e⟩:=Qca h1;rw [hy] at hy'
 cases hy'
 exact ⟨x,y,hx,hy,e,h1,h2,h3⟩
theorem HSt.up {a b:Nat}{d:Int}(h:HSt N ls av a b d):Rch (StW N) a b d:=by
 rcases h with ⟨_,h⟩|⟨j,l,y,z,v,_,_,_,hz,_,_,_,h7,h8,h9,rfl⟩
 · have:=Rch.start.step h
   rwa [Int.zero_add] at this
 · rcases h8 with ⟨⟨p,c,e,g1,g2,rfl⟩,_⟩|⟨g,_⟩
   · have:=(g1.mono (fun _ _ _ h=>h.all)).step (show StW N p b (e+z.2.2) from ⟨z,hz,g2.1,h7,by rw [g2.2]⟩)
     rwa [←Int.add_assoc] at this
   · exact absurd g h9
theorem Qva {p:Nat}{c:Int} (h:Rch (HSt N ls av) s p c):Rch (StW N) s p c:=by
 induction h with
 | start=>exact .start
 | step _ h2 ih=>exact ih.trans h2.up
theorem Qhj (hok:Qaz N){a:Nat}{x:Tri} (h:N.ar[a]?=some x):∃ u v:Nat,x.1=(u:Int)∧x.2.1=(v:Int)∧u<N.vs.length∧v<N.vs.length:=by
 have o:=hok.arcs x (Zm h);have a0:=o.f0;have a1:=o.f1;have b0:=o.g0;have b1:=o.g1;exact ⟨x.1.toNat,x.2.1.toNat,by omega,by omega,by omega,by omega⟩
def Quw (N:Qap) (ls:List (List Int)) (av:List Int) (a:Nat):Prop:=∀ j l y,Qhu ls (toV N a) av=j+1→ls[j]?=some l→N.ar[a]?=some y→Qad l y.1≠Qad l y.2.1
theorem Qlt (hs:toV N s∈av):Quw N ls av s:=fun j l y h hl hy=>by
 obtain ⟨l',hl',h1⟩:=Qed h;exact absurd rfl (h1 _ hs)
theorem Qot {a b:Nat}{x y:Tri} (hx:N.ar[a]?=some x) (hy:N.ar[b]?=some y) (e:x.2.1=y.1) (h0:Qhu ls (toV N a) av=0):Quw N ls av b:=fun j l y' h hl hy' hc=>by
 rw [hy] at hy'
 cases hy'
 obtain ⟨l',hl',h1⟩:=Qed h;rw [hl] at hl'
 cases hl'
 rw [(Qbs hy).1] at h1;have:=Qng (ls:=ls) (v:=toV N a) (av:=av) (j:=j) ⟨l,hl,fun v hv=>by rw [(Qbs hx).1,e,hc];exact h1 v hv⟩;omega
theorem Qpq (hok:Qaz N)(hP:Qbn N.vs.length ls){a b i:Nat}{l:List Int}{y z:Tri} (hy:N.ar[a]?=some y) (hz:N.ar[b]?=some z) (hi:Qhu ls (toV N a) av=i+1) (hl:ls[i]?=some l)
 (h1:Qad l z.1=Qad l y.2.1) (h2:Qad l z.2.1≠Qad l y.2.1):Quw N ls av b:=fun j l' z' hj hl' hz' hc=>by
 rw [hz] at hz'
 cases hz'
 obtain ⟨l'',hl'',g1⟩:=Qed hj;rw [hl'] at hl''
 cases hl''
 rw [(Qbs hz).1] at g1;obtain ⟨u,v,e1,e2,hu,hv⟩:=Qhj hok hz;obtain ⟨_,v',_,e3,_,hv'⟩:=Qhj hok hy;rw [e1,e2] at hc;rw [e2] at g1;rw [e1,e3] at h1;rw [e2,e3] at h2
 rcases Nat.lt_or_ge i j with hij|hij
 · have e4:=Qmt hP hl hu hv' h1 (j-i) l' (by rw [show i+(j-i)=j by omega];exact hl')
   have:=Qng (ls:=ls) (v:=toV N a) (av:=av) (j:=j) ⟨l',hl',fun v hv=>by rw [(Qbs hy).1,e3,←e4,hc];exact g1 v hv⟩;omega
 · have e4:=Qmt hP hl' hu hv hc (i-j) l (by rw [show j+(i-j)=i by omega];exact hl)
   exact h2 (by rw [←e4];exact h1)
theorem ent_le (hok:Qaz N){mk:List Bool}{a p q:Nat}{c e v:Int} (hr:Rch (StA N mk) a p c) (ho:OuA N p q e) (hv:Qgn N mk a q v):v≤c+e∧v≠1152921504606846976:=by
 rcases hv with ⟨⟨p',c1,e',k1,k2,rfl⟩,k3⟩|⟨_,k3⟩
 · refine ⟨k3 _ ⟨p,c,e,hr,ho,rfl⟩,?_⟩
   obtain ⟨c2,h10,h11⟩:=Qik hok p' c1 k1;have b2:=OuA.bd hok k2;have:=k3 _ ⟨p',c2,e',h10,k2,rfl⟩;unfold MB at h11;omega
 · exact absurd ⟨p,c,e,hr,ho,rfl⟩ (k3 _)
theorem Qpc (hok:Qaz N)(hP:Qbn N.vs.length ls) (hE:∀ (j:Nat) (l:List Int) (a b:Nat) (y z:Tri),ls[j]?=some l→N.ar[a]?=some y→N.ar[b]?=some z→Qad l y.1≠Qad l y.2.1→Qad l z.1=Qad l y.2.1→Qad l z.2.1≠Qad l y.2.1→∃ v,Qgn N (Qel l (Qad l y.2.1)) a b v)
 {p:Nat} {c:Int} (h:Rch (StW N) s p c) (hs:∃ x,N.ar[s]?=some x) (hav:toV N s∈av):∃ a c1 c2,Rch (HSt N ls av) s a c1∧Quw N ls av a∧c1+c2≤c ∧
  ((Qhu ls (toV N a) av=0∧p=a∧c2=0)∨∃ j l y,Qhu ls (toV N a) av=j+1∧ls[j]?=some l∧N.ar[a]?=some y∧Rch (StA N (Qel l (Qad l y.2.1))) a p c2):=by
 -- an arc that the search comes to, whatever its level
 have fresh:∀ (q:Nat) (e:Int),Rch (HSt N ls av) s q e→Quw N ls av q→(∃ x,N.ar[q]?=some x)→∀ f,e≤f→∃ a c1 c2,Rch (HSt N ls av) s a c1∧Quw N ls av a∧c1+c2≤f ∧
  ((Qhu ls (toV N a) av=0∧q=a∧c2=0)∨∃ j l y,Qhu ls (toV N a) av=j+1∧ls[j]?=some l∧N.ar[a]?=some y∧Rch (StA N (Qel l (Qad l y.2.1))) a q c2):=by
  intro q e hq hg ⟨x,hx⟩ f hf;refine ⟨q,e,0,hq,hg,by omega,?_⟩
  cases hlv:Qhu ls (toV N q) av with
  | zero=>exact .inl ⟨rfl,rfl,rfl⟩
  | succ j =>
   obtain ⟨l,hl,_⟩:=Qed hlv;exact .inr ⟨j,l,x,rfl,hl,hx,.start⟩
 induction h with
 | start=>exact fresh s 0 .start (Qlt hav) hs 0 (Int.le_refl _)
 | @step p q c d h1 h2 ih =>
  obtain ⟨a,c1,c2,g1,g2,g3,g4⟩:=ih;obtain ⟨x,w,hx,hw,e,k1,k2,rfl⟩:=h2.ends
  rcases g4 with ⟨h0,rfl,rfl⟩|⟨j,l,y,hj,hl,hy,hr⟩
  · exact fresh q (c1+(Qau N p q+w.2.2)) (g1.step (.inl ⟨h0,h2⟩)) (Qot hx hw e h0) ⟨w,hw⟩ _ (by omega)
  · have hlen:=(hP.lvl l (Zm hl)).len
    -- where p ends: within the cell
    have hpc:Qad l x.2.1=Qad l y.2.1:=by
     cases hr with
     | start =>
      rw [hx] at hy
      cases hy
      rfl
     | step _ h4 =>
      obtain ⟨_,x',_,hx',_,_,_,_,h5,_⟩:=(Qcy hok hlen).1 h4;rw [hx] at hx'
      cases hx'
      exact h5
    by_cases hin:Qad l w.2.1=Qad l y.2.1
    · refine ⟨a,c1,c2+(Qau N p q+w.2.2),g1,g2,by omega,.inr ⟨j,l,y,hj,hl,hy,hr.step ((Qcy hok hlen).2 ⟨x,w,hx,hw,e,k1,k2,?_,hin,rfl⟩)⟩⟩
      rw [←e];exact hpc
    · have hfr:Qad l w.1=Qad l y.2.1:=by rw [←e];exact hpc
      have hen:=g2 j l y hj hl hy;obtain ⟨v,hv⟩:=hE j l a q y w hl hy hw hen hfr hin;obtain ⟨hle,hne⟩:=ent_le hok hr ⟨k1,rfl⟩ hv;exact fresh q (c1+(v+w.2.2)) (g1.step (.inr ⟨j,l,y,w,v,hj,hl,hy,hw,hen,hfr,hin,k2,hv,hne,rfl⟩)) (Qpq hok hP hy hw hj hl hfr hin) ⟨w,hw⟩ _ (by omega)
theorem Qtm (hok:Qaz N)(hP:Qbn N.vs.length ls) (hE:∀ (j:Nat) (l:List Int) (a b:Nat) (y z:Tri),ls[j]?=some l→N.ar[a]?=some y→N.ar[b]?=some z→Qad l y.1≠Qad l y.2.1→Qad l z.1=Qad l y.2.1→Qad l z.2.1≠Qad l y.2.1→∃ v,Qgn N (Qel l (Qad l y.2.1)) a b v)
 (hs:∃ x,N.ar[s]?=some x) (hav:toV N s∈av) (hat:frV N t∈av) {v:Int} (h:Lst (Rch (HSt N ls av) s t) v):Lst (Rch (StW N) s t) v:=by
 refine h.conv (fun c hc=>⟨c,Qva hc,Int.le_refl _⟩) (fun c hc=>?_);obtain ⟨a,c1,c2,g1,g2,g3,g4⟩:=Qpc hok hP hE hc hs hav
 rcases g4 with ⟨_,rfl,rfl⟩|⟨j,l,y,hj,hl,hy,hr⟩
 · exact ⟨c1,g1,by omega⟩
 · have hlen:=(hP.lvl l (Zm hl)).len
   cases hr with
   | start=>exact ⟨c1,g1,by omega⟩
   | step _ h4 =>
    obtain ⟨_,w,_,hw,_,_,_,h5,_,_⟩:=(Qcy hok hlen).1 h4;obtain ⟨l',hl',h6⟩:=Qed hj;rw [hl] at hl'
    cases hl'
    have h6:=h6 _ hat;rw [(Qbs hy).1,(Qbs hw).2.1] at h6;exact absurd h5.symm h6
end
def dAt (d:List Int)(a:Nat):Int:=d.getD a 1152921504606846976
theorem Qex {d:List Int}{a:Nat}{v:Int} (h:d[a]?=some v):dAt d a=v:=by unfold dAt;rw [List.getD_eq_getElem?_getD,h];rfl
section
variable {N:Qap} {mk:List Bool} {s t:Nat} {d:List Int} {best:Int}
end
attribute [local go_sem ↓] Go.wp_at_zero Go.wp_at_succ
def Qgj (N:Qap)(a:Nat):List Int:=match N.ar[a]? with
 | some x=>(idx (·.1) N.ar x.2.1).filter (fun b=>Qau N a b.toNat != 1152921504606846976)
 | none=>[]
def Qps (N:Qap)(a:Nat):List Int:=(Qgj N a).map (fun b=>Qau N a b.toNat)
def Qou (N:Qap):List (List Int):=(List.range N.ar.length).map (Qgj N)
def Qns (N:Qap):List (List Int):=(List.range N.ar.length).map (Qps N)
theorem Qun {N:Qap}{a:Nat}(h:a<N.ar.length):(Qou N)[a]?=some (Qgj N a):=by
 unfold Qou;rw [List.getElem?_map,List.getElem?_range h]
 rfl
theorem Qtu {N:Qap}{a:Nat}(h:a<N.ar.length):(Qns N)[a]?=some (Qps N a):=by
 unfold Qns;rw [List.getElem?_map,List.getElem?_range h]
 rfl
theorem Qvl {N:Qap}{a:Nat}{z:Int}:z∈Qgj N a↔∃ b:Nat,z=(b:Int)∧Qau N a b≠1152921504606846976:=by
 unfold Qgj
 cases hx:N.ar[a]? with
 | none =>
  simp only [List.not_mem_nil,false_iff,not_exists,not_and];rintro b rfl h;obtain ⟨x,_,e,_⟩:=Qca h;rw [hx] at e
  cases e
 | some x =>
  simp only [List.mem_filter,Qey]
  constructor
  · rintro ⟨⟨b,y,rfl,_,_⟩,h2⟩
    exact ⟨b,rfl,by simpa using h2⟩
  · rintro ⟨b,rfl,h⟩
    obtain ⟨x',y,e1,e2,e3⟩:=Qca h;rw [hx] at e1
    cases e1
    exact ⟨⟨b,y,rfl,e2,e3.symm⟩,by simpa using h⟩
theorem nxt_len (N:Qap)(a:Nat):(Qgj N a).length≤N.ar.length:=by
 unfold Qgj
 cases hx:N.ar[a]? with
 | none=>simp
 | some x =>
  have h:=Qgq (·.1) N.ar N.ar.length x.2.1;rw [List.take_length] at h;exact Nat.le_trans (List.length_filter_le _ _) h
theorem trn_len (N:Qap)(a:Nat):(Qps N a).length=(Qgj N a).length:=by simp [Qps]
theorem nxt_at {N:Qap}{a k:Nat} (h:k<(Qgj N a).length):∃ b:Nat,(Qgj N a)[k]?=some (b:Int)∧(Qps N a)[k]?=some (Qau N a b)∧Qau N a b≠1152921504606846976∧b<N.ar.length:=by
 obtain ⟨z,hz⟩:∃ z,(Qgj N a)[k]?=some z:=⟨_,Zg h⟩;obtain ⟨b,rfl,hb⟩:=Qvl.1 (Zm hz);obtain ⟨_,y,_,e,_⟩:=Qca hb;refine ⟨b,hz,?_,hb,(Zs e).1⟩;unfold Qps;rw [List.getElem?_map,hz]
 rfl
theorem Qoo (Q:Option Addr)(L cq i:Nat)(w:World)(hi:i<L) :
 Calls prog 104 #[.agg #[.slice Q L cq],.int .i64 ((i:Int)+1)] w fun r w'=>r=.returned (.bool true)∧Below w.heap.size w w':=by
 have i1:(1:Int)≤(i:Int)+1:=by omega
 have i2:(i:Int)+1≤(L:Int):=by omega
 go_enter func104,ntmps104
 go_wp2
 go_ret
 exact ⟨Qay (by first|(simp;done)|(simp;omega)),Qah⟩
set_option maxHeartbeats 2000000 in
theorem Qqq (A B C Q:Option Addr)(n m k c d e L cq li:Nat)(N:Qap) (ls:List (List Int)) (l:List Int) (w:World) (h:Qcj w A B C n m k N) (hok:Qaz N) (hq:RdT w Q L ls) (hl:ls[li]?=some l) (hll:l.length=N.vs.length) (hL:L≤1000000) :
 Calls prog 119 #[.agg #[.slice A n c,.slice B m d,.slice C k e],.agg #[.slice Q L cq],.int .i64 ((li:Int)+1)] w fun r w'=>∃ A' n' c',r=.returned (.slice A' n' c')∧RdI w' A' n' (Qaw N.ar l)∧(∀ b,Qab A'=some b→w.heap.size≤b)∧Below w.heap.size w w':=by
 have HH:=Zh h;have HM:=Zh h.2.1.1;have hm:m≤16384:=by rw [←h.2.1.1];exact hok.la
 have hliL:li<L:=by rw [←hq.1];exact (Zs hl).1
 obtain ⟨qb,qo,LA,ln,lc,l',rfl,hl',q1,q2,q3,q4⟩:=hq.at_ hliL;rw [hl] at hl'
 cases hl'
 have hln:ln=N.vs.length:=by rw [←q2.1];exact hll
 have i5:(li:Int)+1-1=(li:Int):=by omega
 have i6:(li:Int)<(L:Int):=by omega
 have i7:(0:Int)≤(li:Int):=by omega
 have wl:IntKind.i64.wrap (li:Int)=(li:Int):=IntWalk.i64_in _ (by omega);have HQ:=Zh q2;have HQ1:=Zh q1;have HLN:=Zh hln;have hlv:=hok.lv;have HAR:=Zh hok.arcs;clear h hq hl q1 q2 q3 q4 hll hln hok
 go_enter func119,ntmps119
 go_wp2_with fail
 (refine Qak ?_;intro w1 hw1)
 have hb1:Below w.heap.size w w1:=by rw [hw1];exact Qah
 have hX:Blk w1 w.heap.size 26 #[.slice A n c,.slice B m d,.slice C k e]:=by
  rw [hw1];refine Blk.alloc ?_ _;exact Blk.new _ _ _
 have hY:Blk w1 (w.heap.size+1) 29 #[.slice (some ⟨qb,qo,none⟩) L cq]:=by
  rw [hw1];refine Blk.new' _ _ _ ?_;simp
 clear hw1
 go_loopw [7,8] (fun z q V=>∃ (i:Nat) (A':Option Addr) (c':Nat),i≤m∧q=.int .i64 i∧z=.slice A' (Qhv (Qcf l) (N.ar.take i)).length c'∧Own V w1.heap.size 3 1 A' (Qhv (Qcf l) (N.ar.take i)).length c' (Qag (Qhv (Qcf l) (N.ar.take i)))∧Below w1.heap.size w1 V) (fun _ q _=>m-(intOf q).toNat)
 case atStart=>exact ⟨0,none,0,Nat.zero_le _,rfl,rfl,Own.nil _ _ _ _,Zr _ _⟩
 case round =>
  obtain ⟨i,A',c',hi,rfl,rfl,hown,hbl⟩:=hrel;have hXr:=hX.below hbl hX.lt;have hYr:=hY.below hbl hY.lt;have x1:=hXr.cell 1;have xl:=hXr.lt;have y0:=hYr.cell 0;have yl:=hYr.lt;simp only [List.getElem?_toArray,List.getElem?_cons_zero,List.getElem?_cons_succ] at x1 y0;have hbd:(Qhv (Qcf l) (N.ar.take i)).length≤i:=Nat.le_trans (Qhd _ _) (by rw [List.length_take];omega);have HOW:=Zh hown;obtain ⟨no,hno⟩:∃ no,no=(Qhv (Qcf l) (N.ar.take i)).length:=⟨_,rfl⟩;rw [←hno] at hbd ⊢;have HNO:=Zh hno;clear hown hno
  by_cases hlt:i<m
  rotate_left
  · obtain rfl:i=m:=by omega
    have i1:¬((i:Int)<(i:Int)):=by omega
    go_wp2_with fail
    go_ret
    refine ⟨A',no,⟨c',rfl⟩,?_,fun b hb=>by have:=(HOW.out.lt b hb).1;have:=hb1.size;omega,Zb hb1 hbl⟩;have:=HOW.out.rds.rdI;rw [List.take_of_length_le (by rw [HM.out];exact Zn _)] at this;rw [HNO.out,List.take_of_length_le (by rw [HM.out];exact Zn _)];exact this
  · have i1:(i:Int)<(m:Int):=by omega
    have i2:(0:Int)≤(i:Int):=by omega
    go_wp2_with fail
    with_reducible refine (Qoo _ L cq li wr hliL).mono ?_
    rintro r w2 ⟨rfl,hb2⟩;have hbl2:=Zb hbl hb2;have HOW2:=Zh (HOW.out.below hb2);have hbw:=Zb hb1 hbl2;clear x1 xl y0 yl hXr hYr hb2 hbl HOW;obtain ⟨y,hy⟩:∃ y,N.ar[i]?=some y:=⟨_,Zg (by rw [HM.out];exact hlt)⟩;obtain ⟨b,o,rfl,c0,c1,c2⟩:=(HH.out.below hbw).2.1.2 i y hy;have ho:=HAR.out y (Zm hy);have f0:=ho.f0;have f1:=ho.f1;have g0:=ho.g0;have g1:=ho.g1;obtain ⟨u,hu⟩:∃ u:Nat,y.1=(u:Int):=⟨y.1.toNat,by omega⟩;obtain ⟨v,hv⟩:∃ v:Nat,y.2.1=(v:Int):=⟨y.2.1.toNat,by omega⟩;rw [hu] at c0;rw [hv] at c1;have hun:u<ln:=by rw [HLN.out];omega
    have hvn:v<ln:=by rw [HLN.out];omega
    obtain ⟨b1,o1,z1,rfl,hz1,d1⟩:=(HQ.out.below hbw).at_ hun;obtain ⟨b1',o1',z2,e',hz2,d2⟩:=(HQ.out.below hbw).at_ hvn
    cases e'
    have hqc:=Zc hbw (Zn _) HQ1.out;have hXr:=hX.below hbl2 hX.lt;have hYr:=hY.below hbl2 hY.lt
    have hcr:Qcf l y=(z1 != z2):=by
     unfold Qcf;rw [hu,hv,Qbt hz1,Qbt hz2]
    have j1:(u:Int)<(ln:Int):=by omega
    have j2:(v:Int)<(ln:Int):=by omega
    have j3:(0:Int)≤(u:Int):=by omega
    have j4:(0:Int)≤(v:Int):=by omega
    have HY:=Zh hy;have HCR:=Zh hcr
    have HSX:=Zh (show ∀ V,Below w2.heap.size w2 V→V.cell? ⟨w.heap.size,1,none⟩=some (.slice (some ⟨b,o,none⟩) m d)∧V.cell? ⟨w.heap.size+1,0,none⟩=some (.slice (some ⟨qb,qo,none⟩) L cq)∧V.cell? ⟨qb,qo+li,none⟩=some (.slice (some ⟨b1,o1,none⟩) ln lc)∧V.cell? ⟨b,o+i*3,none⟩=some (.int .i64 u)∧V.cell? ⟨b,o+i*3+1,none⟩=some (.int .i64 v)∧V.cell? ⟨b1,o1+u,none⟩=some (.int .i64 z1)∧V.cell? ⟨b1,o1+v,none⟩=some (.int .i64 z2) from
     fun V hV=>⟨by rw [(hXr.below hV hXr.lt).cell];rfl,by rw [(hYr.below hV hYr.lt).cell];rfl,Zc hV (Zn _) hqc,Zc hV (Zn _) c0,Zc hV (Zn _) c1,Zc hV (Zn _) d1,Zc hV (Zn _) d2⟩)
    clear hy hcr c0 c1 c2 d1 d2 hqc hXr hYr hu hv hz1 hz2 f0 f1 g0 g1 ho
    go_wp2_with fail
    refine wp_region_held_drew (S:=fun V=>Below w2.heap.size w2 V) (by kernel_rfl) (Zr _ _).drew (fun _=>?_);refine tz 0 21 ?_;refine tz 1 22 ?_;refine tz 2 23 ?_;refine tz 3 24 ?_;refine tz 4 25 ?_;refine tz 5 26 ?_;refine tz 6 27 ?_;refine tz 7 28 ?_;refine tz 8 29 ?_;refine tz 9 30 ?_;refine tz 10 31 ?_;refine tz 11 32 ?_;refine tz 12 33 ?_;refine tz 13 34 ?_;refine tz 14 35 ?_;refine tz 15 36 ?_;refine tz 16 37 ?_;refine tz 17 38 ?_;refine tz 18 39 ?_;refine tz 19 40 ?_;refine tz 20 41 ?_;refine tz 21 42 ?_;refine tz 22 43 ?_;refine tz 23 44 ?_;refine tz 24 45 ?_;refine tz 25 46 ?_;refine tz 26 47 ?_;refine tz 27 48 ?_;refine tz 28 49 ?_;refine Zd ?_;clear HSX
    by_cases hv:z1=z2
    · have e1:(z1 != z2)=false:=by simpa using hv
      have HN1:=Zh (show Qhv (Qcf l) (N.ar.take (i+1))=Qhv (Qcf l) (N.ar.take i) by rw [Qkr HY.out,HCR.out,e1];simp)
      have HE:=Zh hv;clear hv
      go_wp2_with fail
      go_roundw
      case rel=>exact ⟨i+1,A',c',by omega,by go_num,by rw [HN1.out,HNO.out],by rw [HN1.out];exact HOW2.out.drew,hbl2.drew⟩
      case measure=>simp [intOf];omega
    · have e1:(z1 != z2)=true:=by simpa using hv
      obtain ⟨W1,hW1⟩:∃ W1,W1=w2.drew:=⟨_,rfl⟩;have hbW1:Below w1.heap.size w1 W1:=by rw [hW1];exact hbl2.drew
      have hown2:Own W1 w1.heap.size 3 1 A' no c' (Qag (Qhv (Qcf l) (N.ar.take i))):=by
       rw [hW1];have:=HOW2.out;rw [←HNO.out] at this;exact this.drew
      rw [←hW1];obtain ⟨W2,hW2⟩:∃ W2,W2=W1.alloc (.cells #[.int .i64 i] 3):=⟨_,rfl⟩;have hown3:Own W2 w1.heap.size 3 1 A' no c' (Qag (Qhv (Qcf l) (N.ar.take i))):=by rw [hW2];exact hown2.alloc _
      have hrd:Rds W2 1 (some ⟨W1.heap.size,0,none⟩) 1 (Qag [(i:Int)]):=by rw [hW2];exact (Blk.new W1 3 #[.int .i64 i]).rds rfl
      have hba:Below w1.heap.size w1 W2:=by rw [hW2];exact Below.alloc hbW1 hbW1.size _
      have hsz:w1.heap.size≤W2.heap.size:=hba.size;have HW2:=Zh hW2;have HE:=Zh hv;clear hW2 hown2 hv hW1 hbW1
      go_wp2_with (at_builtin;rw [←HW2.out];with_reducible refine Qan rfl (.tmp 50) (.tmp 52) 67 rfl 3 _ 1 8 Qbc underlying67 rfl (by omega) rfl rfl hown3 hrd (Qai _) (by omega) (by omega) hsz ?_)
      intro A3 c3 w8 ho8 hg8 _;have hb8:Below w1.heap.size w1 w8:=Bel.grownOwn hba hg8 hown3 hsz;have HN0:=Zh (show Qhv (Qcf l) (N.ar.take (i+1))=Qhv (Qcf l) (N.ar.take i) ++[(i:Int)] by rw [Qkr HY.out,HCR.out,e1,if_pos rfl])
      have HO8:=Zh (show Own w8 w1.heap.size 3 1 A3 (no+1) c3 (Qag (Qhv (Qcf l) (N.ar.take (i+1)))) by rw [HN0.out,Qbv];exact ho8)
      have HN1:=Zh (show (Qhv (Qcf l) (N.ar.take (i+1))).length=no+1 by rw [HN0.out,List.length_append,←HNO.out];rfl)
      clear hown3 hrd hba hsz ho8 hg8
      go_wp2_with fail
      go_roundw
      case rel=>exact ⟨i+1,A3,c3,by omega,by go_num,by rw [HN1.out],by rw [HN1.out];exact HO8.out,hb8⟩
      case measure=>simp [intOf];omega
set_option maxHeartbeats 1000000 in
theorem never_ok (n:Nat)(w:World)(hn:n≤1000000):Calls prog 133 #[.int .i64 n] w fun e w'=>e=.returned (.slice (some ⟨w.heap.size,0,none⟩) n n)∧Blk w' w.heap.size 2 (Qbu (List.replicate n 1152921504606846976))∧Below w.heap.size w w':=by
 have hmk:=Qdw n (by omega)
 go_enter func133,ntmps133
 go_wp2_with fail
 (refine Qak ?_;intro w1 hw1)
 have hb1:Below w.heap.size w w1:=by rw [hw1];exact Qah
 have hd1:Blk w1 w.heap.size 2 (Qbu (List.replicate 0 1152921504606846976 ++List.replicate (n-0) 0)):=by
  rw [hw1,Nat.sub_zero,List.replicate_zero,List.nil_append,←Qar];exact Blk.new _ _ _
 clear hw1
 go_loopw [4] (fun q W=>∃ i:Nat,q=.int .i64 i∧i≤n∧Below w.heap.size w W∧Blk W w.heap.size 2 (Qbu (List.replicate i 1152921504606846976 ++List.replicate (n-i) 0))) (fun q _=>n-(intOf q).toNat)
 case atStart=>exact ⟨0,rfl,Nat.zero_le _,hb1,hd1⟩
 case round =>
  clear hb1 hd1;obtain ⟨i,rfl,hin,hb,hd⟩:=hrel
  by_cases hlt:i<n
  · obtain ⟨v0,hv0⟩:∃ v0,(List.replicate i (1152921504606846976:Int) ++List.replicate (n-i) 0)[i]?=some v0:=⟨_,Zg (by simp;omega)⟩
    have c0:=hd.cellI hv0;have f0:=hd.frozen i;have HD:=Zh (hd.setI (Qsh n i hlt 1152921504606846976 0));have HB:=Zh (show Below w.heap.size w (wr.setCell ⟨w.heap.size,i,none⟩ (.int .i64 1152921504606846976)) from Bel.setCell_ hb (Zn _))
    have i1:(0:Int)≤(i:Int):=by omega
    have i2:(i:Int)<(n:Int):=by omega
    clear hb hd hv0
    go_wp2_with fail
    go_roundw
    case rel=>exact ⟨i+1,by go_num,by omega,HB.out,HD.out⟩
    case measure=>simp [intOf];omega
  · obtain rfl:n=i:=by omega
    rw [Nat.sub_self,List.replicate_zero,List.append_nil] at hd;have i2:¬((n:Int)<(n:Int)):=by omega
    go_wp2_with fail
    go_ret
    exact ⟨rfl,hd,hb⟩
def Qet (x y:Int):Int:=if x+y > 1152921504606846976 then 1152921504606846976 else x+y
theorem Qfw (x:Int)(w:World)(h0:0≤x)(h1:x≤1152921504606846976):Calls prog 140 #[.int .i64 x] w fun e w'=>e=.returned (.int .i64 x)∧w=w':=by
 have i1:¬(x<0):=by omega
 have i2:¬(x > 1152921504606846976):=by omega
 go_enter func140,ntmps140
 go_wp2_with fail
 go_ret
 exact ⟨rfl,rfl⟩
theorem Qrl (x:Int)(w:World)(h1:x > 1152921504606846976):Calls prog 140 #[.int .i64 x] w fun e w'=>e=.returned (.int .i64 1152921504606846976)∧w=w':=by
 have i1:¬(x<0):=by omega
 go_enter func140,ntmps140
 go_wp2_with fail
 go_ret
 exact ⟨rfl,rfl⟩
theorem Qoy (x y:Int)(w:World)(hx:0≤x∧x≤1152921504606846976)(hy:0≤y∧y≤1152921504606846976):Calls prog 79 #[.int .i64 x,.int .i64 y] w fun e w'=>e=.returned (.int .i64 (Qet x y))∧w=w':=by
 have HX:=Zh (Qfw x w hx.1 hx.2);have HY:=Zh (Qfw y w hy.1 hy.2)
 have HZ:=Zh (show Calls prog 140 #[.int .i64 (x+y)] w fun e w'=>e=.returned (.int .i64 (Qet x y))∧w=w' by
  unfold Qet
  by_cases h:x+y > 1152921504606846976
  · rw [if_pos h];exact Qrl _ w h
  · rw [if_neg h];exact Qfw _ w (by omega) (by omega))
 have e1:IntKind.i64.wrap (x+y)=x+y:=IntWalk.i64_in _ (by omega);clear hx hy
 go_enter func79,ntmps79
 go_wp2_with fail
 with_reducible refine HX.out.mono ?_
 rintro e w' ⟨rfl,rfl⟩
 go_wp2_with fail
 with_reducible refine HY.out.mono ?_
 rintro e w' ⟨rfl,rfl⟩
 go_wp2_with fail
 with_reducible refine HZ.out.mono ?_
 rintro e w' ⟨rfl,rfl⟩
 go_wp2_with fail
 go_ret
 exact ⟨rfl,rfl⟩
theorem Qig {x y:Int}(hx:0≤x)(hy:0≤y):0≤Qet x y∧Qet x y≤1152921504606846976∧Qet x y≤x+y∧(Qet x y<1152921504606846976→Qet x y=x+y):=by
 unfold Qet
 split <;> omega
def Qut (d:List Int):Nat:=(d.map Int.toNat).sum
theorem Qsd:∀ (d:List Int)(b:Nat)(v x:Int),d[b]?=some x→0≤v→v<x→Qut (d.set b v)<Qut d
 | [],b,v,x,h,_,_=>by simp at h
 | z::t,0,v,x,h,h1,h2=>by
  simp at h;subst h;simp only [Qut,List.set_cons_zero,List.map_cons,List.sum_cons];omega
 | z::t,b+1,v,x,h,h1,h2=>by
  have:=Qsd t b v x (by simpa using h) h1 h2;simp only [Qut,List.set_cons_succ,List.map_cons,List.sum_cons] at this ⊢;omega
section
variable {N:Qap} {mk:List Bool} {s t:Nat} {d:List Int} {best:Int}
theorem Qwy {d:List Int}{b q:Nat}{v:Int}(hb:b<d.length):dAt (d.set b v) q=if b=q then v else dAt d q:=by
 unfold dAt;simp only [List.getD_eq_getElem?_getD]
 by_cases e:b=q
 · subst e;rw [if_pos rfl,List.getElem?_set_self hb];rfl
 · rw [if_neg e,List.getElem?_set_ne e]
def rowOf (V:World)(D:Nat):List Int:=match V.heap[D]? with
 | some (.cells cs _ _)=>cs.toList.map (fun v=>match v with | .int _ x=>x | _=>0)
 | _=>[]
theorem Qod {V:World}{D:Nat}{ty:TypeId}{l:List Int} (h:Blk V D ty (Qbu l)):rowOf V D=l:=by
 unfold rowOf;rw [show V.heap[D]?=_ from h]
 simp only [Qbu,List.map_map];exact List.map_id l
end
section
variable {N:Qap} {ls:List (List Int)} {s t:Nat} {d:List Int}
theorem StW.lt {a b:Nat}{e:Int}(h:StW N a b e):b<N.ar.length:=by
 obtain ⟨y,hy,_⟩:=h;exact (Zs hy).1
theorem StW.bd (hok:Qaz N){a b:Nat}{e:Int}(h:StW N a b e):0≤e∧e≤4294967296:=by
 obtain ⟨y,hy,h1,h2,rfl⟩:=h;have h3:=(Qdt hok a b).resolve_left h1;have h4:=(Qec (hok.arcs y (Zm hy)).w).resolve_left h2;omega
theorem Qql (hok:Qaz N){p:Nat}{c:Int} (h:Rch (StW N) s p c):∃ e,Rch (StW N) s p e∧e≤MB:=by
 obtain ⟨e,h1,h2⟩:=Rch.bound (n:=N.ar.length) (D:=4294967296) (by omega) (fun p q d h=>⟨h.lt,(h.bd hok).2⟩) h;refine ⟨e,h1,?_⟩;have:=hok.la;unfold MB;omega
structure BfF (N:Qap) (s:Nat) (d:List Int):Prop where
 len:d.length=N.ar.length
 ok:∀ (b:Nat) (v:Int),d[b]?=some v→v=1152921504606846976∨(0≤v∧v<1152921504606846976∧Rch (StW N) s b v)
 zero:dAt d s=0
theorem BfF.at_ (h:BfF N s d)(a:Nat):dAt d a=1152921504606846976∨(0≤dAt d a∧dAt d a<1152921504606846976∧Rch (StW N) s a (dAt d a)):=by
 cases e:d[a]? with
 | none=>left;unfold dAt;rw [List.getD_eq_getElem?_getD,e];rfl
 | some v=>rw [Qex e];exact h.ok a v e
theorem BfF.start (hs:s<N.ar.length):BfF N s ((List.replicate N.ar.length 1152921504606846976).set s 0):=by
 have hl:s<(List.replicate N.ar.length (1152921504606846976:Int)).length:=by simpa using hs
 refine ⟨by simp,fun b v h=>?_,by rw [Qwy hl,if_pos rfl]⟩
 by_cases e:s=b
 · subst e
   rw [List.getElem?_set_self hl] at h
   cases h
   exact .inr ⟨Int.le_refl _,by omega,.start⟩
 · rw [List.getElem?_set_ne e] at h
   obtain ⟨_,e2⟩:=Zs h;simp at e2;exact .inl e2.symm
theorem BfF.less (h:BfF N s d){a b:Nat}{e:Int}(ha:dAt d a<1152921504606846976)(hs:StW N a b e)(he:0≤e)(hlt:dAt d a+e<dAt d b):BfF N s (d.set b (dAt d a+e)):=by
 rcases h.at_ a with h1|⟨h1,_,h2⟩
 · omega
 have hb:b<d.length:=by rw [h.len];exact hs.lt
 have hbi:dAt d b≤1152921504606846976:=by rcases h.at_ b with g|⟨_,g,_⟩ <;> omega
 refine ⟨by rw [List.length_set];exact h.len,fun q v hq=>?_,?_⟩
 · by_cases e1:b=q
   · subst e1
     rw [List.getElem?_set_self hb] at hq
     cases hq
     exact .inr ⟨by omega,by omega,h2.step hs⟩
   · rw [List.getElem?_set_ne e1] at hq
     exact h.ok q v hq
 · rw [Qwy hb]
   split
   · rename_i e1
     subst e1;have:=h.zero;omega
   · exact h.zero
theorem BfF.done (hok:Qaz N)(h:BfF N s d)(hR:∀ a,dAt d a<1152921504606846976→∀ b e,StW N a b e→dAt d b≤dAt d a+e)(t:Nat):Lst (Rch (StW N) s t) (dAt d t):=by
 have hlow:∀ p c,Rch (StW N) s p c→dAt d p≤c:=by
  intro p c hr
  induction hr with
  | start=>rw [h.zero];exact Int.le_refl _
  | @step p q c e _ h2 ih =>
   have he:=(h2.bd hok).1;have hq:dAt d q≤1152921504606846976:=by rcases h.at_ q with g|⟨_,g,_⟩ <;> omega
   by_cases hlt:dAt d p<1152921504606846976
   · have:=hR p hlt q e h2;omega
   · omega
 rcases h.at_ t with h1|⟨_,_,h1⟩
 · right
   refine ⟨h1,fun c hc=>?_⟩;obtain ⟨e,h2,h3⟩:=Qql hok hc;have:=hlow t e h2;unfold MB at h3;omega
 · exact .inl ⟨h1,hlow t⟩
def BfG (N:Qap)(d:List Int)(a k:Nat):Prop:=∀ (p j b:Nat),p<a∨p=a∧j<k→(Qgj N p)[j]?=some (b:Int)→dAt d p<1152921504606846976→∀ e,StW N p b e→dAt d b≤dAt d p+e
theorem BfG.next (hok:Qaz N){a k b:Nat}{y:Tri}(h:BfG N d a k) (hb:(Qgj N a)[k]?=some (b:Int)) (hy:N.ar[b]?=some y) (hd0:0≤dAt d a) (htn:Qau N a b≠1152921504606846976) (hw0:0≤y.2.2) (hno:dAt d b≤Qet (Qet (dAt d a) (Qau N a b)) y.2.2):BfG N d a (k+1):=fun p j q hp hq hd e he=>by
 by_cases e1:p=a∧j=k
 · obtain ⟨rfl,rfl⟩:=e1
   rw [hb] at hq;have:(b:Int)=(q:Int):=Option.some.inj hq;obtain rfl:b=q:=by omega
   obtain ⟨y',hy',_,_,rfl⟩:=he;rw [hy] at hy'
   cases hy'
   have h1:=(Qdt hok p b).resolve_left htn;have g1:=Qig hd0 h1.1;have g2:=Qig g1.1 hw0;omega
 · exact h p j q (by omega) hq hd e he
theorem BfG.up {a k:Nat}(h:BfG N d a k) (hk:(Qgj N a).length≤k∨¬dAt d a<1152921504606846976):BfG N d (a+1) 0:=fun p j b hp hj hd e he=>by
 by_cases e1:p=a
 · subst e1
   rcases hk with hk|hk
   · exact h p j b (.inr ⟨rfl,by have:=(Zs hj).1;omega⟩) hj hd e he
   · exact absurd hd hk
 · exact h p j b (by omega) hj hd e he
theorem BfF.fin (hok:Qaz N)(h:BfF N s d)(hG:BfG N d N.ar.length 0)(t:Nat):Lst (Rch (StW N) s t) (dAt d t):=by
 refine h.done hok (fun a ha b e he=>?_) t;obtain ⟨x,y,hx,hy,_,h1,_,_⟩:=he.ends;obtain ⟨j,hj⟩:=List.getElem?_of_mem (Qvl.2 ⟨b,rfl,h1⟩);exact hG a j b (.inl (Zs hx).1) hj ha e he
theorem BfF.nd (hok:Qaz N)(h:BfF N s d){a b:Nat}{y:Tri}(ha:dAt d a<1152921504606846976)(htn:Qau N a b≠1152921504606846976) (hy:N.ar[b]?=some y) (hw0:0≤y.2.2) (hlt:Qet (Qet (dAt d a) (Qau N a b)) y.2.2<dAt d b) :
 BfF N s (d.set b (Qet (Qet (dAt d a) (Qau N a b)) y.2.2))∧0≤Qet (Qet (dAt d a) (Qau N a b)) y.2.2:=by
 have h1:=(Qdt hok a b).resolve_left htn
 rcases h.at_ a with h2|⟨h2,_,_⟩
 · omega
 have hdb:dAt d b≤1152921504606846976:=by rcases h.at_ b with g|⟨_,g,_⟩ <;> omega
 have g1:=Qig h2 h1.1;have g2:=Qig g1.1 hw0;have e2:=g2.2.2.2 (by omega);have e3:=g1.2.2.2 (by omega);rw [e2,e3,Int.add_assoc] at hlt ⊢;exact ⟨h.less ha ⟨y,hy,htn,by omega,rfl⟩ (by omega) hlt,by omega⟩
end
/-! A search that takes the least first and stops where its end is taken. -/
theorem Dij.miss {St:Qbx}{s t:Nat}{dn hp:Nat→Option Int}(h:Dij St s dn hp)(h0:∀ p q d,St p q d→0≤d)(he:∀ q,hp q=none)(ht:dn t=none):Lst (Rch St s t) 1152921504606846976:=.inr ⟨rfl,fun c hc=>by
 obtain ⟨e,h1,_⟩:=h.all h0 he hc;rw [ht] at h1
 cases h1⟩
section
variable {N:Qap} {ls:List (List Int)} {av:List Int} {s:Nat}
theorem Qol (hok:Qaz N)(hP:Qbn N.vs.length ls)(hav:toV N s∈av){p:Nat}{c:Int} (h:Rch (HSt N ls av) s p c):Quw N ls av p:=by
 cases h with
 | start=>exact Qlt hav
 | step _ h2 =>
  rcases h2 with ⟨h0,h3⟩|⟨j,l,y,z,v,hj,hl,hy,hz,_,h5,h6,_⟩
  · obtain ⟨x,y,hx,hy,e,_⟩:=h3.ends
    exact Qot hx hy e h0
  · exact Qpq hok hP hy hz hj hl h5 h6
theorem rchH_bd (hok:Qaz N)(hP:Qbn N.vs.length ls) (hE:∀ (j:Nat) (l:List Int) (a b:Nat) (y z:Tri),ls[j]?=some l→N.ar[a]?=some y→N.ar[b]?=some z→Qad l y.1≠Qad l y.2.1→Qad l z.1=Qad l y.2.1→Qad l z.2.1≠Qad l y.2.1→∃ v,Qgn N (Qel l (Qad l y.2.1)) a b v)
 (hs:∃ x,N.ar[s]?=some x) (hav:toV N s∈av) {p:Nat} {c:Int} (h:Rch (HSt N ls av) s p c):∃ e,Rch (HSt N ls av) s p e∧e≤MB:=by
 obtain ⟨e,h1,h2⟩:=Qql hok (Qva h);obtain ⟨a,c1,c2,g1,g2,g3,g4⟩:=Qpc hok hP hE h1 hs hav
 rcases g4 with ⟨_,rfl,rfl⟩|⟨j,l,y,hj,hl,hy,hr⟩
 · exact ⟨c1,g1,by omega⟩
 · cases hr with
   | start=>exact ⟨c1,g1,by omega⟩
   | step _ h4 =>
    exfalso
    have hlen:=(hP.lvl l (Zm hl)).len;obtain ⟨_,w,_,hw,_,_,_,h5,h6,_⟩:=(Qcy hok hlen).1 h4;obtain ⟨l',hl',q1⟩:=Qed hj;rw [hl] at hl'
    cases hl'
    rw [(Qbs hy).1] at q1;have hm:=Qng (ls:=ls) (v:=toV N p) (av:=av) (j:=j) ⟨l,hl,fun v hv=>by rw [(Qbs hw).1,h6];exact q1 v hv⟩;obtain ⟨k,hk⟩:∃ k,Qhu ls (toV N p) av=k+1:=⟨Qhu ls (toV N p) av-1,by omega⟩;obtain ⟨lk,hlk,_⟩:=Qed hk;obtain ⟨u,v,e1,e2,hu,hv⟩:=Qhj hok hw;have hg:=Qol hok hP hav h k lk w hk hlk hw;rw [e1,e2] at hg;rw [e1] at h5;rw [e2] at h6;exact hg (Qmt hP hl hu hv (h5.trans h6.symm) (k-j) lk (by rw [show j+(k-j)=k by omega];exact hlk))
theorem HSt.bd (hok:Qaz N){a b:Nat}{d:Int}(h:HSt N ls av a b d):0≤d∧d≤70379481595904:=by
 rcases h with ⟨_,h⟩|⟨j,l,y,z,v,_,_,_,hz,_,_,_,h7,h8,h9,rfl⟩
 · have:=h.bd hok;omega
 · have h1:=(h8.bd hok).resolve_left h9
   have h2:=(Qec (hok.arcs z (Zm hz)).w).resolve_left h7;omega
theorem Qee.ent {cl:List Int}(hok:Qaz N)(hP:Qbn N.vs.length ls)(h:Qee N ls cl){j:Nat}{l:List Int}{a b:Nat}{y z:Tri} (hl:ls[j]?=some l) (hy:N.ar[a]?=some y) (hz:N.ar[b]?=some z) (h1:Qad l y.1≠Qad l y.2.1) (h2:Qad l z.1=Qad l y.2.1) (h3:Qad l z.2.1≠Qad l y.2.1) :
 ∃ (c:Nat) (x:Qao) (i k:Nat) (v:Int),Qad l y.2.1=(c:Int)∧(Qae N.ar l)[c]?=some x∧x.1[i]?=some (a:Int)∧x.2[k]?=some (b:Int)∧Qgf N ls (Qfq (Qaf N.ar ls) (Qae N.ar l) j c x i k) j l c x i k a b∧cl[Qfq (Qaf N.ar ls) (Qae N.ar l) j c x i k]?=some v∧Qgn N (Qel l (Qad l y.2.1)) a b v:=by
 obtain ⟨_,u,_,e2,_,hu⟩:=Qhj hok hy;have hlv:=hP.lvl l (Zm hl);obtain ⟨c,hc,hcm,_⟩:=Qda hlv (v:=u) hu;rw [←e2] at hc;have hcl:c<(Qae N.ar l).length:=by rw [Qas];exact hcm
 obtain ⟨x,hx⟩:∃ x,(Qae N.ar l)[c]?=some x:=⟨_,Zg hcl⟩;obtain ⟨i,hi⟩:=List.getElem?_of_mem ((Qdn hx).2 ⟨y,hy,by rw [←hc];exact h1,hc⟩);obtain ⟨k,hk⟩:=List.getElem?_of_mem ((Qcc hx).2 ⟨z,hz,by rw [h2];exact hc,by rw [←hc];exact h3⟩);have he:Qgf N ls (Qfq (Qaf N.ar ls) (Qae N.ar l) j c x i k) j l c x i k a b:=⟨hl,hx,hi,hk,rfl⟩;obtain ⟨v,hv,hv2⟩:=h.at_ he;exact ⟨c,x,i,k,v,hc,hx,hi,hk,he,hv,by rw [hc];exact hv2⟩
end
end Go.Proofs.YteaoiabikjnkeaaGreatDoor
