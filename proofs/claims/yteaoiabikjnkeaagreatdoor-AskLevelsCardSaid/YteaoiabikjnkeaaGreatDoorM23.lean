/- Parts of the proof: AsP, RoP, RfI, RoQ, RfC, RoM, RoR. -/
import Derived.Test.YteaoiabikjnkeaaGreatDoorM1
import Derived.Test.YteaoiabikjnkeaaGreatDoorM4
import Derived.Test.YteaoiabikjnkeaaGreatDoorM8
import Derived.Test.YteaoiabikjnkeaaGreatDoorM16
import Derived.Test.YteaoiabikjnkeaaGreatDoorM17
import Derived.Test.YteaoiabikjnkeaaGreatDoorM22
namespace Go.Proofs.YteaoiabikjnkeaaGreatDoor
open Go.RowKit
def StW (N:Qao):Qbu:=fun a b d=>∃ y,N.ar[b]?=some y∧Qat N a b≠1152921504606846976∧y.2.2≠1152921504606846976∧d=Qat N a b+y.2.2
theorem StA.all {N:Qao}{mk:List Bool}{a b:Nat}{d:Int}(h:StA N mk a b d):StW N a b d:=by
 obtain ⟨y,h1,h2,h3,_,_,h4⟩:=h;exact ⟨y,h1,h2,h3,h4⟩
def Qcg (ls:List (List Int)) (i:Nat) (v:Int) (av:List Int):Prop:=∃ l,ls[i]?=some l∧∀ x∈av,Qab l v≠Qab l x
noncomputable def Qjb (ls:List (List Int)) (v:Int) (av:List Int):Nat→Nat
 | 0=>0
 | n+1=>by classical exact if Qcg ls n v av then n+1 else Qjb ls v av n
noncomputable def Qdd (ls:List (List Int)) (v:Int) (av:List Int):Nat:=Qjb ls v av ls.length
section
variable {ls:List (List Int)} {v:Int} {av:List Int}
theorem Qhh:∀ n,Qjb ls v av n≤n
 | 0=>Zn _
 | n+1=>by
  have:=Qhh n;unfold Qjb
  split <;> omega
theorem Qth:∀ n j,Qjb ls v av n=j+1→Qcg ls j v av
 | 0,j,h=>by unfold Qjb at h; omega
 | n+1,j,h=>by
  unfold Qjb at h
  split at h
  · rename_i h1
    obtain rfl:n=j:=by omega
    exact h1
  · exact Qth n j h
theorem Qtd:∀ n j,j<n→Qcg ls j v av→j+1≤Qjb ls v av n
 | 0,j,h,_=>by omega
 | n+1,j,h,h1=>by
  unfold Qjb
  split
  · omega
  · rename_i h2
    refine Qtd n j ?_ h1
    by_cases e:j=n
    · subst e; exact absurd h1 h2
    · omega
theorem Qce {j:Nat}(h:Qdd ls v av=j+1):Qcg ls j v av:=Qth _ _ h
theorem Qem {j:Nat}(h:Qcg ls j v av):j+1≤Qdd ls v av:=by
 obtain ⟨l,hl,h1⟩:=id h;exact Qtd _ _ (Zs hl).1 ⟨l,hl,h1⟩
end
theorem Qix {n:Nat} {ls:List (List Int)} (hP:Qay n ls) {i:Nat} {l:List Int} (hi:ls[i]?=some l) {u v:Nat} (hu:u<n) (hv:v<n) (h:Qab l (u:Int)=Qab l (v:Int)):∀ (k:Nat) (l':List Int),ls[i+k]?=some l'→Qab l' (u:Int)=Qab l' (v:Int)
 | 0,l',hl=>by
  rw [Nat.add_zero,hi] at hl
  cases hl
  exact h
 | k+1,l',hl=>by
  obtain ⟨m,hm⟩:∃ m,ls[i+k]?=some m:=⟨_,Zg (by have:=(Zs hl).1; omega)⟩;have ih:=Qix hP hi hu hv h k m hm
  apply Classical.byContradiction
  intro hne;exact Qfq (hP.nest (i+k) m l' hm hl) (hP.lvl l' (Zm hl)).len (hP.lvl m (Zm hm)).len hu hv hne ih
def HSt (N:Qao) (ls:List (List Int)) (av:List Int):Qbu:=fun a b d =>
 (Qdd ls (toV N a) av=0∧StW N a b d) ∨
 ∃ j l y z v,Qdd ls (toV N a) av=j+1∧ls[j]?=some l∧N.ar[a]?=some y∧N.ar[b]?=some z∧Qab l y.1≠Qab l y.2.1∧Qab l z.1=Qab l y.2.1∧Qab l z.2.1≠Qab l y.2.1∧z.2.2≠1152921504606846976∧Qgq N (Qek l (Qab l y.2.1)) a b v∧v≠1152921504606846976∧d=v+z.2.2
section
variable {N:Qao} {ls:List (List Int)} {av:List Int} {s t:Nat}
theorem StW.ends {a b:Nat}{d:Int}(h:StW N a b d):∃ x y,N.ar[a]?=some x∧N.ar[b]?=some y∧x.2.1=y.1∧Qat N a b≠1152921504606846976∧y.2.2≠1152921504606846976∧d=Qat N a b+y.2.2:=by
 obtain ⟨y,hy,h1,h2,h3⟩:=h;obtain ⟨x,y',hx,hy',e⟩:=Qbz h1;rw [hy] at hy'
 cases hy'
 exact ⟨x,y,hx,hy,e,h1,h2,h3⟩
theorem HSt.up {a b:Nat}{d:Int}(h:HSt N ls av a b d):Rch (StW N) a b d:=by
 rcases h with ⟨_,h⟩ | ⟨j,l,y,z,v,_,_,_,hz,_,_,_,h7,h8,h9,rfl⟩
 · have:=Rch.start.step h
   rwa [Int.zero_add] at this
 · rcases h8 with ⟨⟨p,c,e,g1,g2,rfl⟩,_⟩ | ⟨g,_⟩
   · have:=(g1.mono (fun _ _ _ h=>h.all)).step (show StW N p b (e+z.2.2) from ⟨z,hz,g2.1,h7,by rw [g2.2]⟩)
     rwa [←Int.add_assoc] at this
   · exact absurd g h9
theorem Qwm {p:Nat}{c:Int} (h:Rch (HSt N ls av) s p c):Rch (StW N) s p c:=by
 induction h with
 | start=>exact .start
 | step _ h2 ih=>exact ih.trans h2.up
theorem Qgc (hok:Qau N){a:Nat}{x:Tri} (h:N.ar[a]?=some x):∃ u v:Nat,x.1=(u:Int)∧x.2.1=(v:Int)∧u<N.vs.length∧v<N.vs.length:=by
 have o:=hok.arcs x (Zm h);have a0:=o.f0; have a1:=o.f1; have b0:=o.g0; have b1:=o.g1;exact ⟨x.1.toNat,x.2.1.toNat,by omega,by omega,by omega,by omega⟩
def Qwo (N:Qao) (ls:List (List Int)) (av:List Int) (a:Nat):Prop:=∀ j l y,Qdd ls (toV N a) av=j+1→ls[j]?=some l→N.ar[a]?=some y→Qab l y.1≠Qab l y.2.1
theorem Qmm (hs:toV N s∈av):Qwo N ls av s:=fun j l y h hl hy=>by
 obtain ⟨l',hl',h1⟩:=Qce h;exact absurd rfl (h1 _ hs)
theorem Qpt {a b:Nat}{x y:Tri} (hx:N.ar[a]?=some x) (hy:N.ar[b]?=some y) (e:x.2.1=y.1) (h0:Qdd ls (toV N a) av=0):Qwo N ls av b:=fun j l y' h hl hy' hc=>by
 rw [hy] at hy'
 cases hy'
 obtain ⟨l',hl',h1⟩:=Qce h;rw [hl] at hl'
 cases hl'
 rw [(Qbn hy).1] at h1;have:=Qem (ls:=ls) (v:=toV N a) (av:=av) (j:=j) ⟨l,hl,fun v hv=>by rw [(Qbn hx).1,e,hc]; exact h1 v hv⟩;omega
theorem Qpv (hok:Qau N)(hP:Qay N.vs.length ls){a b i:Nat}{l:List Int}{y z:Tri} (hy:N.ar[a]?=some y) (hz:N.ar[b]?=some z) (hi:Qdd ls (toV N a) av=i+1) (hl:ls[i]?=some l)
 (h1:Qab l z.1=Qab l y.2.1) (h2:Qab l z.2.1≠Qab l y.2.1):Qwo N ls av b:=fun j l' z' hj hl' hz' hc=>by
 rw [hz] at hz'
 cases hz'
 obtain ⟨l'',hl'',g1⟩:=Qce hj;rw [hl'] at hl''
 cases hl''
 rw [(Qbn hz).1] at g1;obtain ⟨u,v,e1,e2,hu,hv⟩:=Qgc hok hz;obtain ⟨_,v',_,e3,_,hv'⟩:=Qgc hok hy;rw [e1,e2] at hc;rw [e2] at g1;rw [e1,e3] at h1;rw [e2,e3] at h2
 rcases Nat.lt_or_ge i j with hij | hij
 · have e4:=Qix hP hl hu hv' h1 (j-i) l' (by rw [show i+(j-i)=j by omega]; exact hl')
   have:=Qem (ls:=ls) (v:=toV N a) (av:=av) (j:=j) ⟨l',hl',fun v hv=>by rw [(Qbn hy).1,e3,←e4,hc]; exact g1 v hv⟩;omega
 · have e4:=Qix hP hl' hu hv hc (i-j) l (by rw [show j+(i-j)=i by omega]; exact hl)
   exact h2 (by rw [←e4]; exact h1)
theorem ent_le (hok:Qau N){mk:List Bool}{a p q:Nat}{c e v:Int} (hr:Rch (StA N mk) a p c) (ho:OuA N p q e) (hv:Qgq N mk a q v):v≤c+e∧v≠1152921504606846976:=by
 rcases hv with ⟨⟨p',c1,e',k1,k2,rfl⟩,k3⟩ | ⟨_,k3⟩
 · refine ⟨k3 _ ⟨p,c,e,hr,ho,rfl⟩,?_⟩
   obtain ⟨c2,h10,h11⟩:=Qit hok p' c1 k1;have b2:=OuA.bd hok k2;have:=k3 _ ⟨p',c2,e',h10,k2,rfl⟩;unfold MB at h11;omega
 · exact absurd ⟨p,c,e,hr,ho,rfl⟩ (k3 _)
theorem Qny (hok:Qau N)(hP:Qay N.vs.length ls) (hE:∀ (j:Nat) (l:List Int) (a b:Nat) (y z:Tri),ls[j]?=some l→N.ar[a]?=some y→N.ar[b]?=some z→Qab l y.1≠Qab l y.2.1→Qab l z.1=Qab l y.2.1→Qab l z.2.1≠Qab l y.2.1→∃ v,Qgq N (Qek l (Qab l y.2.1)) a b v)
 {p:Nat} {c:Int} (h:Rch (StW N) s p c) (hs:∃ x,N.ar[s]?=some x) (hav:toV N s∈av):∃ a c1 c2,Rch (HSt N ls av) s a c1∧Qwo N ls av a∧c1+c2≤c ∧
  ((Qdd ls (toV N a) av=0∧p=a∧c2=0)∨∃ j l y,Qdd ls (toV N a) av=j+1∧ls[j]?=some l∧N.ar[a]?=some y∧Rch (StA N (Qek l (Qab l y.2.1))) a p c2):=by
 -- an arc that the search comes to, whatever its level
 have fresh:∀ (q:Nat) (e:Int),Rch (HSt N ls av) s q e→Qwo N ls av q→(∃ x,N.ar[q]?=some x)→∀ f,e≤f→∃ a c1 c2,Rch (HSt N ls av) s a c1∧Qwo N ls av a∧c1+c2≤f ∧
  ((Qdd ls (toV N a) av=0∧q=a∧c2=0)∨∃ j l y,Qdd ls (toV N a) av=j+1∧ls[j]?=some l∧N.ar[a]?=some y∧Rch (StA N (Qek l (Qab l y.2.1))) a q c2):=by
  intro q e hq hg ⟨x,hx⟩ f hf;refine ⟨q,e,0,hq,hg,by omega,?_⟩
  cases hlv:Qdd ls (toV N q) av with
  | zero=>exact .inl ⟨rfl,rfl,rfl⟩
  | succ j =>
   obtain ⟨l,hl,_⟩:=Qce hlv;exact .inr ⟨j,l,x,rfl,hl,hx,.start⟩
 induction h with
 | start=>exact fresh s 0 .start (Qmm hav) hs 0 (Int.le_refl _)
 | @step p q c d h1 h2 ih =>
  obtain ⟨a,c1,c2,g1,g2,g3,g4⟩:=ih;obtain ⟨x,w,hx,hw,e,k1,k2,rfl⟩:=h2.ends
  rcases g4 with ⟨h0,rfl,rfl⟩ | ⟨j,l,y,hj,hl,hy,hr⟩
  · exact fresh q (c1+(Qat N p q+w.2.2)) (g1.step (.inl ⟨h0,h2⟩)) (Qpt hx hw e h0) ⟨w,hw⟩ _ (by omega)
  · have hlen:=(hP.lvl l (Zm hl)).len
    -- where p ends: within the cell
    have hpc:Qab l x.2.1=Qab l y.2.1:=by
     cases hr with
     | start =>
      rw [hx] at hy
      cases hy
      rfl
     | step _ h4 =>
      obtain ⟨_,x',_,hx',_,_,_,_,h5,_⟩:=(Qcv hok hlen).1 h4;rw [hx] at hx'
      cases hx'
      exact h5
    by_cases hin:Qab l w.2.1=Qab l y.2.1
    · refine ⟨a,c1,c2+(Qat N p q+w.2.2),g1,g2,by omega,.inr ⟨j,l,y,hj,hl,hy,hr.step ((Qcv hok hlen).2 ⟨x,w,hx,hw,e,k1,k2,?_,hin,rfl⟩)⟩⟩
      rw [←e];exact hpc
    · have hfr:Qab l w.1=Qab l y.2.1:=by rw [←e]; exact hpc
      have hen:=g2 j l y hj hl hy;obtain ⟨v,hv⟩:=hE j l a q y w hl hy hw hen hfr hin;obtain ⟨hle,hne⟩:=ent_le hok hr ⟨k1,rfl⟩ hv;exact fresh q (c1+(v+w.2.2)) (g1.step (.inr ⟨j,l,y,w,v,hj,hl,hy,hw,hen,hfr,hin,k2,hv,hne,rfl⟩)) (Qpv hok hP hy hw hj hl hfr hin) ⟨w,hw⟩ _ (by omega)
theorem Qmj (hok:Qau N)(hP:Qay N.vs.length ls) (hE:∀ (j:Nat) (l:List Int) (a b:Nat) (y z:Tri),ls[j]?=some l→N.ar[a]?=some y→N.ar[b]?=some z→Qab l y.1≠Qab l y.2.1→Qab l z.1=Qab l y.2.1→Qab l z.2.1≠Qab l y.2.1→∃ v,Qgq N (Qek l (Qab l y.2.1)) a b v)
 (hs:∃ x,N.ar[s]?=some x) (hav:toV N s∈av) (hat:frV N t∈av) {v:Int} (h:Lst (Rch (HSt N ls av) s t) v):Lst (Rch (StW N) s t) v:=by
 refine h.conv (fun c hc=>⟨c,Qwm hc,Int.le_refl _⟩) (fun c hc=>?_);obtain ⟨a,c1,c2,g1,g2,g3,g4⟩:=Qny hok hP hE hc hs hav
 rcases g4 with ⟨_,rfl,rfl⟩ | ⟨j,l,y,hj,hl,hy,hr⟩
 · exact ⟨c1,g1,by omega⟩
 · have hlen:=(hP.lvl l (Zm hl)).len
   cases hr with
   | start=>exact ⟨c1,g1,by omega⟩
   | step _ h4 =>
    obtain ⟨_,w,_,hw,_,_,_,h5,_,_⟩:=(Qcv hok hlen).1 h4;obtain ⟨l',hl',h6⟩:=Qce hj;rw [hl] at hl'
    cases hl'
    have h6:=h6 _ hat;rw [(Qbn hy).1,(Qbn hw).2.1] at h6;exact absurd h5.symm h6
end
def dAt (d:List Int)(a:Nat):Int:=d.getD a 1152921504606846976
theorem Qfr {d:List Int}{a:Nat}{v:Int} (h:d[a]?=some v):dAt d a=v:=by unfold dAt; rw [List.getD_eq_getElem?_getD,h]; rfl
section
variable {N:Qao} {mk:List Bool} {s t:Nat} {d:List Int} {best:Int}
end
attribute [local go_sem ↓] Go.wp_at_zero Go.wp_at_succ
set_option maxHeartbeats 1000000 in
theorem Qts (A B C:Option Addr)(n m k c d e:Nat)(N:Qao)(v:Int)(w:World)(h:Qbv w A B C n m k N)(hm:m≤16384) :
 Calls Tryz.prog 141 #[.agg #[.slice A n c,.slice B m d,.slice C k e],.int .i64 v] w fun r w'=>∃ A' n' c',r=.returned (.slice A' n' c')∧RdI w' A' n' (idx (·.2.1) N.ar v)∧Below w.heap.size w w':=by
 have HH:=Zh h;have HM:=Zh h.2.1.1;clear h
 go_enter Tryz.func141,Tryz.ntmps141
 go_wp2_with fail
 (refine Qaj ?_; intro w1 hw1)
 have hb1:Below w.heap.size w w1:=by rw [hw1]; exact Qah
 have hX:Blk w1 w.heap.size 26 #[.slice A n c,.slice B m d,.slice C k e]:=by rw [hw1]; exact Blk.new _ _ _
 clear hw1
 go_loopw [5,6] (fun z q V=>∃ (i:Nat) (A':Option Addr) (c':Nat),i≤m∧q=.int .i64 i∧z=.slice A' (idx (·.2.1) (N.ar.take i) v).length c'∧Own V w1.heap.size 3 1 A' (idx (·.2.1) (N.ar.take i) v).length c' (Qag (idx (·.2.1) (N.ar.take i) v))∧Below w1.heap.size w1 V) (fun _ q _=>m-(intOf q).toNat)
 case atStart=>exact ⟨0,none,0,Nat.zero_le _,rfl,rfl,Own.nil _ _ _ _,Zr _ _⟩
 case round =>
  obtain ⟨i,A',c',hi,rfl,rfl,hown,hbl⟩:=hrel;have hXr:=hX.below hbl hX.lt;have x1:=hXr.cell 1;have xl:=hXr.lt;simp only [List.getElem?_toArray,List.getElem?_cons_zero,List.getElem?_cons_succ] at x1;have hbd:=Qeg (·.2.1) N.ar i v;have HOW:=Zh hown;obtain ⟨no,hno⟩:∃ no,no=(idx (·.2.1) (N.ar.take i) v).length:=⟨_,rfl⟩;rw [←hno] at hbd ⊢;have HNO:=Zh hno;clear hown hno
  by_cases hlt:i<m
  rotate_left
  · obtain rfl:i=m:=by omega
    have i1:¬((i:Int)<(i:Int)):=by omega
    go_wp2_with fail
    go_ret
    refine ⟨A',no,⟨c',rfl⟩,?_,Zb hb1 hbl⟩;have:=HOW.out.rds.rdI;rw [List.take_of_length_le (by rw [HM.out]; exact Zn _)] at this;rw [HNO.out,List.take_of_length_le (by rw [HM.out]; exact Zn _)];exact this
  · have hbw:=Zb hb1 hbl
    obtain ⟨y,hy⟩:∃ y,N.ar[i]?=some y:=⟨_,Zg (by rw [HM.out]; exact hlt)⟩;obtain ⟨b,o,rfl,c0,c1,c2⟩:=(HH.out.below hbw).2.1.2 i y hy;have HY:=Zh hy;have i1:(i:Int)<(m:Int):=by omega
    have i2:(0:Int)≤(i:Int):=by omega
    clear hy
    by_cases hv:y.2.1=v
    · have e1:(y.2.1 == v)=true:=by simpa using hv
      have hown2:=HOW.out;rw [←HNO.out] at hown2;obtain ⟨W2,hW2⟩:∃ W2,W2=wr.alloc (.cells #[.int .i64 i] 3):=⟨_,rfl⟩;have hown3:Own W2 w1.heap.size 3 1 A' no c' (Qag (idx (·.2.1) (N.ar.take i) v)):=by rw [hW2]; exact hown2.alloc _
      have hrd:Rds W2 1 (some ⟨wr.heap.size,0,none⟩) 1 (Qag [(i:Int)]):=by rw [hW2]; exact (Blk.new wr 3 #[.int .i64 i]).rds rfl
      have hba:Below w1.heap.size w1 W2:=by rw [hW2]; exact Below.alloc hbl hbl.size _
      have hsz:w1.heap.size≤W2.heap.size:=hba.size;have HW2:=Zh hW2;have HE:=Zh hv;clear hW2 hown2 hv
      go_wp2_with (at_builtin; rw [←HW2.out]; with_reducible refine Qam rfl (.tmp 22) (.tmp 24) 67 rfl 3 _ 1 8 Qaz Tryz.underlying67 rfl (by omega) rfl rfl hown3 hrd (Qai _) (by omega) (by omega) hsz ?_)
      intro A3 c3 w8 ho8 hg8 _;have hb8:Below w1.heap.size w1 w8:=Bel.grownOwn hba hg8 hown3 hsz;have HO8:=Zh (show Own w8 w1.heap.size 3 1 A3 (no+1) c3 (Qag (idx (·.2.1) (N.ar.take (i+1)) v)) by rw [Qen HY.out,e1,if_pos rfl,Qbo]; exact ho8)
      have HN1:=Zh (show (idx (·.2.1) (N.ar.take (i+1)) v).length=no+1 by rw [Qen HY.out,e1,if_pos rfl,List.length_append,←HNO.out]; rfl)
      clear hown3 hrd hba hsz ho8 hg8
      go_wp2_with fail
      go_roundw
      case rel=>exact ⟨i+1,A3,c3,by omega,by go_num,by rw [HN1.out],by rw [HN1.out]; exact HO8.out,hb8⟩
      case measure=>simp [intOf]; omega
    · have e1:(y.2.1 == v)=false:=by simpa using hv
      have HN1:=Zh (show idx (·.2.1) (N.ar.take (i+1)) v=idx (·.2.1) (N.ar.take i) v by rw [Qen HY.out,e1]; simp)
      have HE:=Zh hv;clear hv
      go_wp2_with fail
      go_roundw
      case rel=>exact ⟨i+1,A',c',by omega,by go_num,by rw [HN1.out,HNO.out],by rw [HN1.out]; exact HOW.out,hbl⟩
      case measure=>simp [intOf]; omega
set_option maxHeartbeats 1000000 in
theorem Qqc (A B C:Option Addr)(n m k c d e:Nat)(N:Qao)(v:Int)(w:World)(h:Qbv w A B C n m k N)(hm:m≤16384) :
 Calls Tryz.prog 142 #[.agg #[.slice A n c,.slice B m d,.slice C k e],.int .i64 v] w fun r w'=>∃ A' n' c',r=.returned (.slice A' n' c')∧RdI w' A' n' (idx (·.1) N.ar v)∧Below w.heap.size w w':=by
 have HH:=Zh h;have HM:=Zh h.2.1.1;clear h
 go_enter Tryz.func142,Tryz.ntmps142
 go_wp2_with fail
 (refine Qaj ?_; intro w1 hw1)
 have hb1:Below w.heap.size w w1:=by rw [hw1]; exact Qah
 have hX:Blk w1 w.heap.size 26 #[.slice A n c,.slice B m d,.slice C k e]:=by rw [hw1]; exact Blk.new _ _ _
 clear hw1
 go_loopw [5,6] (fun z q V=>∃ (i:Nat) (A':Option Addr) (c':Nat),i≤m∧q=.int .i64 i∧z=.slice A' (idx (·.1) (N.ar.take i) v).length c'∧Own V w1.heap.size 3 1 A' (idx (·.1) (N.ar.take i) v).length c' (Qag (idx (·.1) (N.ar.take i) v))∧Below w1.heap.size w1 V) (fun _ q _=>m-(intOf q).toNat)
 case atStart=>exact ⟨0,none,0,Nat.zero_le _,rfl,rfl,Own.nil _ _ _ _,Zr _ _⟩
 case round =>
  obtain ⟨i,A',c',hi,rfl,rfl,hown,hbl⟩:=hrel;have hXr:=hX.below hbl hX.lt;have x1:=hXr.cell 1;have xl:=hXr.lt;simp only [List.getElem?_toArray,List.getElem?_cons_zero,List.getElem?_cons_succ] at x1;have hbd:=Qeg (·.1) N.ar i v;have HOW:=Zh hown;obtain ⟨no,hno⟩:∃ no,no=(idx (·.1) (N.ar.take i) v).length:=⟨_,rfl⟩;rw [←hno] at hbd ⊢;have HNO:=Zh hno;clear hown hno
  by_cases hlt:i<m
  rotate_left
  · obtain rfl:i=m:=by omega
    have i1:¬((i:Int)<(i:Int)):=by omega
    go_wp2_with fail
    go_ret
    refine ⟨A',no,⟨c',rfl⟩,?_,Zb hb1 hbl⟩;have:=HOW.out.rds.rdI;rw [List.take_of_length_le (by rw [HM.out]; exact Zn _)] at this;rw [HNO.out,List.take_of_length_le (by rw [HM.out]; exact Zn _)];exact this
  · have hbw:=Zb hb1 hbl
    obtain ⟨y,hy⟩:∃ y,N.ar[i]?=some y:=⟨_,Zg (by rw [HM.out]; exact hlt)⟩;obtain ⟨b,o,rfl,c0,c1,c2⟩:=(HH.out.below hbw).2.1.2 i y hy;have HY:=Zh hy;have i1:(i:Int)<(m:Int):=by omega
    have i2:(0:Int)≤(i:Int):=by omega
    clear hy
    by_cases hv:y.1=v
    · have e1:(y.1 == v)=true:=by simpa using hv
      have hown2:=HOW.out;rw [←HNO.out] at hown2;obtain ⟨W2,hW2⟩:∃ W2,W2=wr.alloc (.cells #[.int .i64 i] 3):=⟨_,rfl⟩;have hown3:Own W2 w1.heap.size 3 1 A' no c' (Qag (idx (·.1) (N.ar.take i) v)):=by rw [hW2]; exact hown2.alloc _
      have hrd:Rds W2 1 (some ⟨wr.heap.size,0,none⟩) 1 (Qag [(i:Int)]):=by rw [hW2]; exact (Blk.new wr 3 #[.int .i64 i]).rds rfl
      have hba:Below w1.heap.size w1 W2:=by rw [hW2]; exact Below.alloc hbl hbl.size _
      have hsz:w1.heap.size≤W2.heap.size:=hba.size;have HW2:=Zh hW2;have HE:=Zh hv;clear hW2 hown2 hv
      go_wp2_with (at_builtin; rw [←HW2.out]; with_reducible refine Qam rfl (.tmp 22) (.tmp 24) 67 rfl 3 _ 1 8 Qaz Tryz.underlying67 rfl (by omega) rfl rfl hown3 hrd (Qai _) (by omega) (by omega) hsz ?_)
      intro A3 c3 w8 ho8 hg8 _;have hb8:Below w1.heap.size w1 w8:=Bel.grownOwn hba hg8 hown3 hsz;have HO8:=Zh (show Own w8 w1.heap.size 3 1 A3 (no+1) c3 (Qag (idx (·.1) (N.ar.take (i+1)) v)) by rw [Qen HY.out,e1,if_pos rfl,Qbo]; exact ho8)
      have HN1:=Zh (show (idx (·.1) (N.ar.take (i+1)) v).length=no+1 by rw [Qen HY.out,e1,if_pos rfl,List.length_append,←HNO.out]; rfl)
      clear hown3 hrd hba hsz ho8 hg8
      go_wp2_with fail
      go_roundw
      case rel=>exact ⟨i+1,A3,c3,by omega,by go_num,by rw [HN1.out],by rw [HN1.out]; exact HO8.out,hb8⟩
      case measure=>simp [intOf]; omega
    · have e1:(y.1 == v)=false:=by simpa using hv
      have HN1:=Zh (show idx (·.1) (N.ar.take (i+1)) v=idx (·.1) (N.ar.take i) v by rw [Qen HY.out,e1]; simp)
      have HE:=Zh hv;clear hv
      go_wp2_with fail
      go_roundw
      case rel=>exact ⟨i+1,A',c',by omega,by go_num,by rw [HN1.out,HNO.out],by rw [HN1.out]; exact HOW.out,hbl⟩
      case measure=>simp [intOf]; omega
def Qgt (N:Qao)(a:Nat):List Int:=match N.ar[a]? with
 | some x=>(idx (·.1) N.ar x.2.1).filter (fun b=>Qat N a b.toNat != 1152921504606846976)
 | none=>[]
def Qpx (N:Qao)(a:Nat):List Int:=(Qgt N a).map (fun b=>Qat N a b.toNat)
def Qmi (N:Qao):List (List Int):=(List.range N.ar.length).map (Qgt N)
def Qmd (N:Qao):List (List Int):=(List.range N.ar.length).map (Qpx N)
theorem Quj {N:Qao}{a:Nat}(h:a<N.ar.length):(Qmi N)[a]?=some (Qgt N a):=by
 unfold Qmi;rw [List.getElem?_map,List.getElem?_range h]
 rfl
theorem Qvf {N:Qao}{a:Nat}(h:a<N.ar.length):(Qmd N)[a]?=some (Qpx N a):=by
 unfold Qmd;rw [List.getElem?_map,List.getElem?_range h]
 rfl
theorem Qvm {N:Qao}{a:Nat}{z:Int}:z∈Qgt N a↔∃ b:Nat,z=(b:Int)∧Qat N a b≠1152921504606846976:=by
 unfold Qgt
 cases hx:N.ar[a]? with
 | none =>
  simp only [List.not_mem_nil,false_iff,not_exists,not_and];rintro b rfl h;obtain ⟨x,_,e,_⟩:=Qbz h;rw [hx] at e
  cases e
 | some x =>
  simp only [List.mem_filter,Qfm]
  constructor
  · rintro ⟨⟨b,y,rfl,_,_⟩,h2⟩
    exact ⟨b,rfl,by simpa using h2⟩
  · rintro ⟨b,rfl,h⟩
    obtain ⟨x',y,e1,e2,e3⟩:=Qbz h;rw [hx] at e1
    cases e1
    exact ⟨⟨b,y,rfl,e2,e3.symm⟩,by simpa using h⟩
theorem nxt_len (N:Qao)(a:Nat):(Qgt N a).length≤N.ar.length:=by
 unfold Qgt
 cases hx:N.ar[a]? with
 | none=>simp
 | some x =>
  have h:=Qeg (·.1) N.ar N.ar.length x.2.1;rw [List.take_length] at h;exact Nat.le_trans (List.length_filter_le _ _) h
theorem trn_len (N:Qao)(a:Nat):(Qpx N a).length=(Qgt N a).length:=by simp [Qpx]
theorem nxt_at {N:Qao}{a k:Nat} (h:k<(Qgt N a).length):∃ b:Nat,(Qgt N a)[k]?=some (b:Int)∧(Qpx N a)[k]?=some (Qat N a b)∧Qat N a b≠1152921504606846976∧b<N.ar.length:=by
 obtain ⟨z,hz⟩:∃ z,(Qgt N a)[k]?=some z:=⟨_,Zg h⟩;obtain ⟨b,rfl,hb⟩:=Qvm.1 (Zm hz);obtain ⟨_,y,_,e,_⟩:=Qbz hb;refine ⟨b,hz,?_,hb,(Zs e).1⟩;unfold Qpx;rw [List.getElem?_map,hz]
 rfl
theorem Qic (Q:Option Addr)(L cq i:Nat)(w:World)(hi:i<L) :
 Calls Tryz.prog 104 #[.agg #[.slice Q L cq],.int .i64 ((i:Int)+1)] w fun r w'=>r=.returned (.bool true)∧Below w.heap.size w w':=by
 have i1:(1:Int)≤(i:Int)+1:=by omega
 have i2:(i:Int)+1≤(L:Int):=by omega
 go_enter Tryz.func104,Tryz.ntmps104
 go_wp2
 go_ret
 exact ⟨Qbe (by first | (simp; done) | (simp; omega)),Qah⟩
set_option maxHeartbeats 2000000 in
theorem Qhc (A B C Q:Option Addr)(n m k c d e L cq li:Nat)(N:Qao) (ls:List (List Int)) (l:List Int) (w:World) (h:Qbv w A B C n m k N) (hok:Qau N) (hq:RdT w Q L ls) (hl:ls[li]?=some l) (hll:l.length=N.vs.length) (hL:L≤1000000) :
 Calls Tryz.prog 119 #[.agg #[.slice A n c,.slice B m d,.slice C k e],.agg #[.slice Q L cq],.int .i64 ((li:Int)+1)] w fun r w'=>∃ A' n' c',r=.returned (.slice A' n' c')∧RdI w' A' n' (Qav N.ar l)∧(∀ b,Qac A'=some b→w.heap.size≤b)∧Below w.heap.size w w':=by
 have HH:=Zh h;have HM:=Zh h.2.1.1;have hm:m≤16384:=by rw [←h.2.1.1]; exact hok.la
 have hliL:li<L:=by rw [←hq.1]; exact (Zs hl).1
 obtain ⟨qb,qo,LA,ln,lc,l',rfl,hl',q1,q2,q3,q4⟩:=hq.at_ hliL;rw [hl] at hl'
 cases hl'
 have hln:ln=N.vs.length:=by rw [←q2.1]; exact hll
 have i5:(li:Int)+1-1=(li:Int):=by omega
 have i6:(li:Int)<(L:Int):=by omega
 have i7:(0:Int)≤(li:Int):=by omega
 have wl:IntKind.i64.wrap (li:Int)=(li:Int):=IntWalk.i64_in _ (by omega);have HQ:=Zh q2;have HQ1:=Zh q1;have HLN:=Zh hln;have hlv:=hok.lv;have HAR:=Zh hok.arcs;clear h hq hl q1 q2 q3 q4 hll hln hok
 go_enter Tryz.func119,Tryz.ntmps119
 go_wp2_with fail
 (refine Qaj ?_; intro w1 hw1)
 have hb1:Below w.heap.size w w1:=by rw [hw1]; exact Qah
 have hX:Blk w1 w.heap.size 26 #[.slice A n c,.slice B m d,.slice C k e]:=by
  rw [hw1];refine Blk.alloc ?_ _;exact Blk.new _ _ _
 have hY:Blk w1 (w.heap.size+1) 29 #[.slice (some ⟨qb,qo,none⟩) L cq]:=by
  rw [hw1];refine Blk.new' _ _ _ ?_;simp
 clear hw1
 go_loopw [7,8] (fun z q V=>∃ (i:Nat) (A':Option Addr) (c':Nat),i≤m∧q=.int .i64 i∧z=.slice A' (Qii (Qck l) (N.ar.take i)).length c'∧Own V w1.heap.size 3 1 A' (Qii (Qck l) (N.ar.take i)).length c' (Qag (Qii (Qck l) (N.ar.take i)))∧Below w1.heap.size w1 V) (fun _ q _=>m-(intOf q).toNat)
 case atStart=>exact ⟨0,none,0,Nat.zero_le _,rfl,rfl,Own.nil _ _ _ _,Zr _ _⟩
 case round =>
  obtain ⟨i,A',c',hi,rfl,rfl,hown,hbl⟩:=hrel;have hXr:=hX.below hbl hX.lt;have hYr:=hY.below hbl hY.lt;have x1:=hXr.cell 1;have xl:=hXr.lt;have y0:=hYr.cell 0;have yl:=hYr.lt;simp only [List.getElem?_toArray,List.getElem?_cons_zero,List.getElem?_cons_succ] at x1 y0;have hbd:(Qii (Qck l) (N.ar.take i)).length≤i:=Nat.le_trans (Qfh _ _) (by rw [List.length_take]; omega);have HOW:=Zh hown;obtain ⟨no,hno⟩:∃ no,no=(Qii (Qck l) (N.ar.take i)).length:=⟨_,rfl⟩;rw [←hno] at hbd ⊢;have HNO:=Zh hno;clear hown hno
  by_cases hlt:i<m
  rotate_left
  · obtain rfl:i=m:=by omega
    have i1:¬((i:Int)<(i:Int)):=by omega
    go_wp2_with fail
    go_ret
    refine ⟨A',no,⟨c',rfl⟩,?_,fun b hb=>by have:=(HOW.out.lt b hb).1; have:=hb1.size; omega,Zb hb1 hbl⟩;have:=HOW.out.rds.rdI;rw [List.take_of_length_le (by rw [HM.out]; exact Zn _)] at this;rw [HNO.out,List.take_of_length_le (by rw [HM.out]; exact Zn _)];exact this
  · have i1:(i:Int)<(m:Int):=by omega
    have i2:(0:Int)≤(i:Int):=by omega
    go_wp2_with fail
    with_reducible refine (Qic _ L cq li wr hliL).mono ?_
    rintro r w2 ⟨rfl,hb2⟩;have hbl2:=Zb hbl hb2;have HOW2:=Zh (HOW.out.below hb2);have hbw:=Zb hb1 hbl2;clear x1 xl y0 yl hXr hYr hb2 hbl HOW;obtain ⟨y,hy⟩:∃ y,N.ar[i]?=some y:=⟨_,Zg (by rw [HM.out]; exact hlt)⟩;obtain ⟨b,o,rfl,c0,c1,c2⟩:=(HH.out.below hbw).2.1.2 i y hy;have ho:=HAR.out y (Zm hy);have f0:=ho.f0; have f1:=ho.f1; have g0:=ho.g0; have g1:=ho.g1;obtain ⟨u,hu⟩:∃ u:Nat,y.1=(u:Int):=⟨y.1.toNat,by omega⟩;obtain ⟨v,hv⟩:∃ v:Nat,y.2.1=(v:Int):=⟨y.2.1.toNat,by omega⟩;rw [hu] at c0;rw [hv] at c1;have hun:u<ln:=by rw [HLN.out]; omega
    have hvn:v<ln:=by rw [HLN.out]; omega
    obtain ⟨b1,o1,z1,rfl,hz1,d1⟩:=(HQ.out.below hbw).at_ hun;obtain ⟨b1',o1',z2,e',hz2,d2⟩:=(HQ.out.below hbw).at_ hvn
    cases e'
    have hqc:=Zc hbw (Zn _) HQ1.out;have hXr:=hX.below hbl2 hX.lt;have hYr:=hY.below hbl2 hY.lt
    have hcr:Qck l y=(z1 != z2):=by
     unfold Qck;rw [hu,hv,Qap hz1,Qap hz2]
    have j1:(u:Int)<(ln:Int):=by omega
    have j2:(v:Int)<(ln:Int):=by omega
    have j3:(0:Int)≤(u:Int):=by omega
    have j4:(0:Int)≤(v:Int):=by omega
    have HY:=Zh hy;have HCR:=Zh hcr
    have HSX:=Zh (show ∀ V,Below w2.heap.size w2 V→V.cell? ⟨w.heap.size,1,none⟩=some (.slice (some ⟨b,o,none⟩) m d)∧V.cell? ⟨w.heap.size+1,0,none⟩=some (.slice (some ⟨qb,qo,none⟩) L cq)∧V.cell? ⟨qb,qo+li,none⟩=some (.slice (some ⟨b1,o1,none⟩) ln lc)∧V.cell? ⟨b,o+i*3,none⟩=some (.int .i64 u)∧V.cell? ⟨b,o+i*3+1,none⟩=some (.int .i64 v)∧V.cell? ⟨b1,o1+u,none⟩=some (.int .i64 z1)∧V.cell? ⟨b1,o1+v,none⟩=some (.int .i64 z2) from
     fun V hV=>⟨by rw [(hXr.below hV hXr.lt).cell]; rfl,by rw [(hYr.below hV hYr.lt).cell]; rfl,Zc hV (Zn _) hqc,Zc hV (Zn _) c0,Zc hV (Zn _) c1,Zc hV (Zn _) d1,Zc hV (Zn _) d2⟩)
    clear hy hcr c0 c1 c2 d1 d2 hqc hXr hYr hu hv hz1 hz2 f0 f1 g0 g1 ho
    go_wp2_with fail
    refine wp_region_held_drew (S:=fun V=>Below w2.heap.size w2 V) (by kernel_rfl) (Zr _ _).drew (fun _=>?_);refine tz 0 21 ?_;refine tz 1 22 ?_;refine tz 2 23 ?_;refine tz 3 24 ?_;refine tz 4 25 ?_;refine tz 5 26 ?_;refine tz 6 27 ?_;refine tz 7 28 ?_;refine tz 8 29 ?_;refine tz 9 30 ?_;refine tz 10 31 ?_;refine tz 11 32 ?_;refine tz 12 33 ?_;refine tz 13 34 ?_;refine tz 14 35 ?_;refine tz 15 36 ?_;refine tz 16 37 ?_;refine tz 17 38 ?_;refine tz 18 39 ?_;refine tz 19 40 ?_;refine tz 20 41 ?_;refine tz 21 42 ?_;refine tz 22 43 ?_;refine tz 23 44 ?_;refine tz 24 45 ?_;refine tz 25 46 ?_;refine tz 26 47 ?_;refine tz 27 48 ?_;refine tz 28 49 ?_;refine wpAnyH_done (by kernel_rfl) ?_ _;clear HSX
    by_cases hv:z1=z2
    · have e1:(z1 != z2)=false:=by simpa using hv
      have HN1:=Zh (show Qii (Qck l) (N.ar.take (i+1))=Qii (Qck l) (N.ar.take i) by rw [Qjy HY.out,HCR.out,e1]; simp)
      have HE:=Zh hv;clear hv
      go_wp2_with fail
      go_roundw
      case rel=>exact ⟨i+1,A',c',by omega,by go_num,by rw [HN1.out,HNO.out],by rw [HN1.out]; exact HOW2.out.drew,hbl2.drew⟩
      case measure=>simp [intOf]; omega
    · have e1:(z1 != z2)=true:=by simpa using hv
      obtain ⟨W1,hW1⟩:∃ W1,W1=w2.drew:=⟨_,rfl⟩;have hbW1:Below w1.heap.size w1 W1:=by rw [hW1]; exact hbl2.drew
      have hown2:Own W1 w1.heap.size 3 1 A' no c' (Qag (Qii (Qck l) (N.ar.take i))):=by
       rw [hW1];have:=HOW2.out;rw [←HNO.out] at this;exact this.drew
      rw [←hW1];obtain ⟨W2,hW2⟩:∃ W2,W2=W1.alloc (.cells #[.int .i64 i] 3):=⟨_,rfl⟩;have hown3:Own W2 w1.heap.size 3 1 A' no c' (Qag (Qii (Qck l) (N.ar.take i))):=by rw [hW2]; exact hown2.alloc _
      have hrd:Rds W2 1 (some ⟨W1.heap.size,0,none⟩) 1 (Qag [(i:Int)]):=by rw [hW2]; exact (Blk.new W1 3 #[.int .i64 i]).rds rfl
      have hba:Below w1.heap.size w1 W2:=by rw [hW2]; exact Below.alloc hbW1 hbW1.size _
      have hsz:w1.heap.size≤W2.heap.size:=hba.size;have HW2:=Zh hW2;have HE:=Zh hv;clear hW2 hown2 hv hW1 hbW1
      go_wp2_with (at_builtin; rw [←HW2.out]; with_reducible refine Qam rfl (.tmp 50) (.tmp 52) 67 rfl 3 _ 1 8 Qaz Tryz.underlying67 rfl (by omega) rfl rfl hown3 hrd (Qai _) (by omega) (by omega) hsz ?_)
      intro A3 c3 w8 ho8 hg8 _;have hb8:Below w1.heap.size w1 w8:=Bel.grownOwn hba hg8 hown3 hsz;have HN0:=Zh (show Qii (Qck l) (N.ar.take (i+1))=Qii (Qck l) (N.ar.take i) ++[(i:Int)] by rw [Qjy HY.out,HCR.out,e1,if_pos rfl])
      have HO8:=Zh (show Own w8 w1.heap.size 3 1 A3 (no+1) c3 (Qag (Qii (Qck l) (N.ar.take (i+1)))) by rw [HN0.out,Qbo]; exact ho8)
      have HN1:=Zh (show (Qii (Qck l) (N.ar.take (i+1))).length=no+1 by rw [HN0.out,List.length_append,←HNO.out]; rfl)
      clear hown3 hrd hba hsz ho8 hg8
      go_wp2_with fail
      go_roundw
      case rel=>exact ⟨i+1,A3,c3,by omega,by go_num,by rw [HN1.out],by rw [HN1.out]; exact HO8.out,hb8⟩
      case measure=>simp [intOf]; omega
set_option maxHeartbeats 1000000 in
theorem never_ok (n:Nat)(w:World)(hn:n≤1000000):Calls Tryz.prog 133 #[.int .i64 n] w fun e w'=>e=.returned (.slice (some ⟨w.heap.size,0,none⟩) n n)∧Blk w' w.heap.size 2 (Qcb (List.replicate n 1152921504606846976))∧Below w.heap.size w w':=by
 have hmk:=Qex n (by omega)
 go_enter Tryz.func133,Tryz.ntmps133
 go_wp2_with fail
 (refine Qaj ?_; intro w1 hw1)
 have hb1:Below w.heap.size w w1:=by rw [hw1]; exact Qah
 have hd1:Blk w1 w.heap.size 2 (Qcb (List.replicate 0 1152921504606846976 ++List.replicate (n-0) 0)):=by
  rw [hw1,Nat.sub_zero,List.replicate_zero,List.nil_append,←Qco];exact Blk.new _ _ _
 clear hw1
 go_loopw [4] (fun q W=>∃ i:Nat,q=.int .i64 i∧i≤n∧Below w.heap.size w W∧Blk W w.heap.size 2 (Qcb (List.replicate i 1152921504606846976 ++List.replicate (n-i) 0))) (fun q _=>n-(intOf q).toNat)
 case atStart=>exact ⟨0,rfl,Nat.zero_le _,hb1,hd1⟩
 case round =>
  clear hb1 hd1;obtain ⟨i,rfl,hin,hb,hd⟩:=hrel
  by_cases hlt:i<n
  · obtain ⟨v0,hv0⟩:∃ v0,(List.replicate i (1152921504606846976:Int) ++List.replicate (n-i) 0)[i]?=some v0:=⟨_,Zg (by simp; omega)⟩
    have c0:=hd.cellI hv0;have f0:=hd.frozen i;have HD:=Zh (hd.setI (Qtj n i hlt 1152921504606846976 0));have HB:=Zh (show Below w.heap.size w (wr.setCell ⟨w.heap.size,i,none⟩ (.int .i64 1152921504606846976)) from Bel.setCell_ hb (Zn _))
    have i1:(0:Int)≤(i:Int):=by omega
    have i2:(i:Int)<(n:Int):=by omega
    clear hb hd hv0
    go_wp2_with fail
    go_roundw
    case rel=>exact ⟨i+1,by go_num,by omega,HB.out,HD.out⟩
    case measure=>simp [intOf]; omega
  · obtain rfl:n=i:=by omega
    rw [Nat.sub_self,List.replicate_zero,List.append_nil] at hd;have i2:¬((n:Int)<(n:Int)):=by omega
    go_wp2_with fail
    go_ret
    exact ⟨rfl,hd,hb⟩
def Qdw (x y:Int):Int:=if x+y > 1152921504606846976 then 1152921504606846976 else x+y
theorem Qil (x:Int)(w:World)(h0:0≤x)(h1:x≤1152921504606846976):Calls Tryz.prog 140 #[.int .i64 x] w fun e w'=>e=.returned (.int .i64 x)∧w=w':=by
 have i1:¬(x<0):=by omega
 have i2:¬(x > 1152921504606846976):=by omega
 go_enter Tryz.func140,Tryz.ntmps140
 go_wp2_with fail
 go_ret
 exact ⟨rfl,rfl⟩
theorem Qql (x:Int)(w:World)(h1:x > 1152921504606846976):Calls Tryz.prog 140 #[.int .i64 x] w fun e w'=>e=.returned (.int .i64 1152921504606846976)∧w=w':=by
 have i1:¬(x<0):=by omega
 go_enter Tryz.func140,Tryz.ntmps140
 go_wp2_with fail
 go_ret
 exact ⟨rfl,rfl⟩
theorem Qgb (x y:Int)(w:World)(hx:0≤x∧x≤1152921504606846976)(hy:0≤y∧y≤1152921504606846976):Calls Tryz.prog 79 #[.int .i64 x,.int .i64 y] w fun e w'=>e=.returned (.int .i64 (Qdw x y))∧w=w':=by
 have HX:=Zh (Qil x w hx.1 hx.2);have HY:=Zh (Qil y w hy.1 hy.2)
 have HZ:=Zh (show Calls Tryz.prog 140 #[.int .i64 (x+y)] w fun e w'=>e=.returned (.int .i64 (Qdw x y))∧w=w' by
  unfold Qdw
  by_cases h:x+y > 1152921504606846976
  · rw [if_pos h]; exact Qql _ w h
  · rw [if_neg h]; exact Qil _ w (by omega) (by omega))
 have e1:IntKind.i64.wrap (x+y)=x+y:=IntWalk.i64_in _ (by omega);clear hx hy
 go_enter Tryz.func79,Tryz.ntmps79
 go_wp2_with fail
 with_reducible refine HX.out.mono ?_
 rintro e w' ⟨rfl,rfl⟩
 go_wp2_with fail
 with_reducible refine HY.out.mono ?_
 rintro e w' ⟨rfl,rfl⟩
 go_wp2_with fail
 with_reducible refine HZ.out.mono ?_
 rintro e w' ⟨rfl,rfl⟩
 go_wp2_with fail
 go_ret
 exact ⟨rfl,rfl⟩
theorem Qik {x y:Int}(hx:0≤x)(hy:0≤y):0≤Qdw x y∧Qdw x y≤1152921504606846976∧Qdw x y≤x+y∧(Qdw x y<1152921504606846976→Qdw x y=x+y):=by
 unfold Qdw
 split <;> omega
def Qty (d:List Int):Nat:=(d.map Int.toNat).sum
theorem Qsv:∀ (d:List Int)(b:Nat)(v x:Int),d[b]?=some x→0≤v→v<x→Qty (d.set b v)<Qty d
 | [],b,v,x,h,_,_=>by simp at h
 | z::t,0,v,x,h,h1,h2=>by
  simp at h;subst h;simp only [Qty,List.set_cons_zero,List.map_cons,List.sum_cons];omega
 | z::t,b+1,v,x,h,h1,h2=>by
  have:=Qsv t b v x (by simpa using h) h1 h2;simp only [Qty,List.set_cons_succ,List.map_cons,List.sum_cons] at this ⊢;omega
section
variable {N:Qao} {mk:List Bool} {s t:Nat} {d:List Int} {best:Int}
theorem Qwy {d:List Int}{b q:Nat}{v:Int}(hb:b<d.length):dAt (d.set b v) q=if b=q then v else dAt d q:=by
 unfold dAt;simp only [List.getD_eq_getElem?_getD]
 by_cases e:b=q
 · subst e; rw [if_pos rfl,List.getElem?_set_self hb]; rfl
 · rw [if_neg e,List.getElem?_set_ne e]
def rowOf (V:World)(D:Nat):List Int:=match V.heap[D]? with
 | some (.cells cs _ _)=>cs.toList.map (fun v=>match v with | .int _ x=>x | _=>0)
 | _=>[]
theorem Qpd {V:World}{D:Nat}{ty:TypeId}{l:List Int} (h:Blk V D ty (Qcb l)):rowOf V D=l:=by
 unfold rowOf;rw [show V.heap[D]?=_ from h]
 simp only [Qcb,List.map_map];exact List.map_id l
end
end Go.Proofs.YteaoiabikjnkeaaGreatDoor
