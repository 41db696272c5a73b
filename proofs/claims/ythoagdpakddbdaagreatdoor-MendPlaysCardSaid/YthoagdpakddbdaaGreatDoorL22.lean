/- Parts of the proof: RoR, RoI, RoN. -/
import Derived.Test.YthoagdpakddbdaaGreatDoorL21
namespace Go.Proofs.YthoagdpakddbdaaGreatDoor
open Go.RowKit Go.Proofs.Tryz
theorem Qiu {x y:Int}(hx:0≤x)(hy:0≤y):0≤Qen x y∧Qen x y≤1152921504606846976∧Qen x y≤x+y∧(Qen x y<1152921504606846976→Qen x y=x+y):=by
 unfold Qen
 split <;> omega
def Qvm (d:List Int):Nat:=(d.map Int.toNat).sum
theorem Qth:∀ (d:List Int)(b:Nat)(v x:Int),d[b]?=some x→0≤v→v<x→Qvm (d.set b v)<Qvm d
 | [],b,v,x,h,_,_=>by simp at h
 | z::t,0,v,x,h,h1,h2=>by
  simp at h;subst h;simp only [Qvm,Yj,List.map_cons,List.sum_cons];omega
 | z::t,b+1,v,x,h,h1,h2=>by
  have:=Qth t b v x (by simpa using h) h1 h2;simp only [Qvm,Yk,List.map_cons,List.sum_cons] at this ⊢;omega
section
variable {N:Qai} {mk:List Bool} {s t:Nat} {d:List Int} {best:Int}
def Wi (mk:List Bool)(y:Tri):Prop:=mk.getD y.1.toNat false=true∧mk.getD y.2.1.toNat false=true
theorem Qki {a b:Nat}{y:Tri}{e:Int} (hy:N.ar[b]?=some y):StA N mk a b e↔Qal N a b≠1152921504606846976∧y.2.2≠1152921504606846976∧Wi mk y∧e=Qal N a b+y.2.2:=by
 constructor
 · rintro ⟨z,hz,h1,h2,h3,h4,h5⟩
   rw [hy] at hz
   cases hz
   exact ⟨h1,h2,⟨h3,h4⟩,h5⟩
 · rintro ⟨h1,h2,h3,h4⟩
   exact ⟨y,hy,h1,h2,h3.1,h3.2,h4⟩
def BfS (N:Qai)(mk:List Bool)(s t:Nat)(d:List Int)(best:Int)(k:Nat):Prop:=∀ (j b:Nat),j<k→(Qee N s)[j]?=some (b:Int)→(∀ e,StA N mk s b e→dAt d b≤e)∧(b=t→best≤Qal N s b)
def Quk (x y:Int):Int:=if y<x then y else x
theorem Qqy {d:List Int}{b q:Nat}{v:Int}(hb:b<d.length):dAt (d.set b v) q=if b=q then v else dAt d q:=by
 unfold dAt;simp only [Ya]
 by_cases e:b=q
 · subst e;rw [if_pos rfl,Yg hb];rfl
 · rw [if_neg e,Yh e]
theorem BfI.dir1 (h:BfI N mk s t d best)(hok:Qav N){b:Nat}(htn:Qal N s b≠1152921504606846976)(hb:b=t):BfI N mk s t d (Quk best (Qal N s b)):=by
 have h1:=(Qdu hok s b).resolve_left htn;unfold Quk
 split
 · rename_i hlt
   subst hb;have:=h.out .start (Int.le_refl _) (show OuA N s b (Qal N s b) from ⟨htn,rfl⟩) h1.1 (by omega)
   rwa [Int.zero_add] at this
 · exact h
theorem BfI.dir2 (h:BfI N mk s t d best)(hok:Qav N){b:Nat}{y:Tri} (hy:N.ar[b]?=some y) (htn:Qal N s b≠1152921504606846976) (hw:y.2.2≠1152921504606846976) (hwi:Wi mk y):Qen (Qal N s b) y.2.2=Qal N s b+y.2.2∧BfI N mk s t (d.set b (Quk (dAt d b) (Qen (Qal N s b) y.2.2))) best:=by
 have hst:=(Qki (a:=s) (mk:=mk) hy).2 ⟨htn,hw,hwi,rfl⟩;have hbd:=hst.bd hok;have hbl:b<d.length:=by rw [h.len];exact (Zs hy).1
 have e:Qen (Qal N s b) y.2.2=Qal N s b+y.2.2:=by unfold Qen;rw [if_neg (by omega)]
 refine ⟨e,?_⟩;rw [e];unfold Quk
 split
 · have:=h.less .start (Int.le_refl _) hst hbd.1 (by omega)
   rwa [Int.zero_add] at this
 · have:d.set b (dAt d b)=d:=by
    apply List.ext_getElem?
    intro i
    by_cases e2:b=i
    · subst e2
      rw [Yg hbl,Zg hbl];unfold dAt;rw [Ya,Zg hbl]
      rfl
    · rw [Yh e2]
   rw [this];exact h
theorem BfS.next {k b:Nat}{d':List Int}{best':Int}(h:BfS N mk s t d best k) (hb:(Qee N s)[k]?=some (b:Int)) (hd:∀ q,dAt d' q≤dAt d q) (hbb:best'≤best) (h1:∀ e,StA N mk s b e→dAt d' b≤e) (h2:b=t→best'≤Qal N s b):BfS N mk s t d' best' (k+1):=fun j q hj hq=>by
 by_cases e:j=k
 · subst e
   rw [hb] at hq;have:(b:Int)=(q:Int):=Yv hq;obtain rfl:b=q:=by omega
   exact ⟨h1,h2⟩
 · obtain ⟨g1,g2⟩:=h j q (by omega) hq
   exact ⟨fun e he=>Int.le_trans (hd q) (g1 e he),fun e=>Int.le_trans hbb (g2 e)⟩
def BfR (N:Qai)(mk:List Bool)(t:Nat)(d:List Int)(best:Int)(a k:Nat):Prop:=∀ (p j b:Nat),p<a∨p=a∧j<k→(Qee N p)[j]?=some (b:Int)→dAt d p<1152921504606846976→(∀ e,StA N mk p b e→dAt d b≤dAt d p+e)∧(b=t→best≤dAt d p+Qal N p b)
theorem BfR.less {a k:Nat}{best':Int}(h:BfR N mk t d best a k)(hb:best'≤best):BfR N mk t d best' a k:=fun p j b hp hj hd=>by
 obtain ⟨h1,h2⟩:=h p j b hp hj hd;exact ⟨h1,fun e=>Int.le_trans hb (h2 e)⟩
theorem BfR.next {a k b:Nat}(h:BfR N mk t d best a k) (hb:(Qee N a)[k]?=some (b:Int)) (h1:dAt d a<1152921504606846976→(∀ e,StA N mk a b e→dAt d b≤dAt d a+e)∧(b=t→best≤dAt d a+Qal N a b)):BfR N mk t d best a (k+1):=fun p j q hp hq hd=>by
 by_cases e:p=a∧j=k
 · obtain ⟨rfl,rfl⟩:=e
   rw [hb] at hq;have:(b:Int)=(q:Int):=Yv hq;obtain rfl:b=q:=by omega
   exact h1 hd
 · exact h p j q (by omega) hq hd
theorem BfR.up {a k:Nat}(h:BfR N mk t d best a k) (hk:(Qee N a).length≤k∨¬dAt d a<1152921504606846976):BfR N mk t d best (a+1) 0:=fun p j b hp hj hd=>by
 by_cases e:p=a
 · subst e
   rcases hk with hk|hk
   · exact h p j b (.inr ⟨rfl,by have:=(Zs hj).1;omega⟩) hj hd
   · exact absurd hd hk
 · exact h p j b (by omega) hj hd
theorem BfI.fin (hok:Qav N)(h:BfI N mk s t d best) (hS:BfS N mk s t d best (Qee N s).length) (hR:BfR N mk t d best N.ar.length 0):Qgr N mk s t best:=by
 have key:∀ p b:Nat,Qal N p b≠1152921504606846976→∃ j,(Qee N p)[j]?=some (b:Int):=fun p b hb=>Yr (Qxd.2 ⟨b,rfl,hb⟩)
 refine h.done hok (fun b e he=>?_) (fun e he=>?_) (fun a ha=>⟨fun b e he=>?_,fun e he=>?_⟩)
 · obtain ⟨y,_,h1,_⟩:=id he
   obtain ⟨j,hj⟩:=key s b h1;exact (hS j b (Zs hj).1 hj).1 e he
 · obtain ⟨j,hj⟩:=key s t he.1
   rw [he.2];exact (hS j t (Zs hj).1 hj).2 rfl
 · obtain ⟨y,_,h1,_⟩:=id he
   obtain ⟨x,_,hx,_⟩:=Qbo h1;obtain ⟨j,hj⟩:=key a b h1;exact (hR a j b (.inl (Zs hx).1) hj ha).1 e he
 · obtain ⟨x,_,hx,_⟩:=Qbo he.1
   obtain ⟨j,hj⟩:=key a t he.1;rw [he.2];exact (hR a j t (.inl (Zs hx).1) hj ha).2 rfl
theorem BfI.nb (h:BfI N mk s t d best)(hok:Qav N){a b:Nat}(ha:dAt d a<1152921504606846976)(htn:Qal N a b≠1152921504606846976)(hb:b=t) (hlt:Qen (dAt d a) (Qal N a b)<best):BfI N mk s t d (Qen (dAt d a) (Qal N a b)):=by
 have h1:=(Qdu hok a b).resolve_left htn
 rcases h.at_ a with h2|⟨h2,_,c,e,hr⟩
 · omega
 · have hbl:best≤1152921504606846976:=by rcases h.best with g|⟨_,g,_⟩ <;> omega
   have e2:=(Qiu h2 h1.1).2.2.2 (by omega);rw [e2] at hlt ⊢;subst hb;rw [e] at h2 hlt ⊢;exact h.out hr h2 (show OuA N a b (Qal N a b) from ⟨htn,rfl⟩) h1.1 hlt
theorem BfI.nd (h:BfI N mk s t d best)(hok:Qav N){a b:Nat}{y:Tri}(ha:dAt d a<1152921504606846976)(htn:Qal N a b≠1152921504606846976) (hy:N.ar[b]?=some y) (hw0:0≤y.2.2) (hwi:Wi mk y) (hlt:Qen (Qen (dAt d a) (Qal N a b)) y.2.2<dAt d b) :
 BfI N mk s t (d.set b (Qen (Qen (dAt d a) (Qal N a b)) y.2.2)) best∧0≤Qen (Qen (dAt d a) (Qal N a b)) y.2.2:=by
 have h1:=(Qdu hok a b).resolve_left htn
 rcases h.at_ a with h2|⟨h2,_,c,e,hr⟩
 · omega
 · have hdb:dAt d b≤1152921504606846976:=by rcases h.at_ b with g|⟨_,g,_⟩ <;> omega
   have g1:=Qiu h2 h1.1;have g2:=Qiu g1.1 hw0;have e2:=g2.2.2.2 (by omega);have e3:=g1.2.2.2 (by omega);rw [e2,e3] at hlt ⊢;have hst:=(Qki (a:=a) (mk:=mk) hy).2 ⟨htn,by omega,hwi,rfl⟩;rw [Int.add_assoc] at hlt ⊢;rw [e] at h2 hlt ⊢;exact ⟨h.less hr h2 hst (hst.bd hok).1 hlt,by omega⟩
theorem BfR.nx (hok:Qav N){a k b:Nat}{y:Tri}(h:BfR N mk t d best a k) (hb:(Qee N a)[k]?=some (b:Int)) (hd0:0≤dAt d a) (htn:Qal N a b≠1152921504606846976) (hy:N.ar[b]?=some y) (hw0:0≤y.2.2) (hbest:b=t→best≤Qen (dAt d a) (Qal N a b)) (hno:Wi mk y→dAt d b≤Qen (Qen (dAt d a) (Qal N a b)) y.2.2):BfR N mk t d best a (k+1):=by
 have h1:=(Qdu hok a b).resolve_left htn;have g1:=Qiu hd0 h1.1;have g2:=Qiu g1.1 hw0;refine h.next hb (fun _=>⟨fun e he=>?_,fun e=>?_⟩)
 · obtain ⟨_,_,h4,h5⟩:=(Qki hy).1 he
   have:=hno h4;omega
 · have:=hbest e
   omega
def rowOf (V:World)(D:Nat):List Int:=match V.heap[D]? with
 | some (.cells cs _ _)=>cs.toList.map (fun v=>match v with | .int _ x=>x | _=>0)
 | _=>[]
theorem Qoz {V:World}{D:Nat}{ty:TypeId}{l:List Int} (h:Blk V D ty (Qcv l)):rowOf V D=l:=by
 unfold rowOf;rw [show V.heap[D]?=_ from h]
 simp only [Qcv,List.map_map];exact List.map_id l
end
attribute [local go_sem ↓] Go.wp_at_zero Go.wp_at_succ
structure BfW (w:World) (D:Nat) (cs:Array Value) (V:World) (d:List Int):Prop where
 bel:Below w.heap.size w V
 box:Blk V w.heap.size 131 cs
 row:Blk V D 2 (Qcv d)
 dB:w.heap.size<D
section
variable {w V V':World} {D:Nat} {cs:Array Value} {d:List Int}
theorem BfW.below (h:BfW w D cs V d)(hb:Below V.heap.size V V'):BfW w D cs V' d:=⟨Zb h.bel hb,h.box.below hb h.box.lt,h.row.below hb h.row.lt,h.dB⟩
theorem BfW.set (h:BfW w D cs V d)(b:Nat)(v:Int):BfW w D cs (V.setCell ⟨D,b,none⟩ (.int .i64 v)) (d.set b v) :=
 ⟨h.bel.setCell (by have:=h.dB;simp only;omega) _,h.box.far_ (by have:=h.dB;omega) _,h.row.setI rfl,h.dB⟩
end
theorem BfS.less {N:Qai}{mk:List Bool}{s t k:Nat}{d d':List Int}{best best':Int}(h:BfS N mk s t d best k)(hd:∀ q,dAt d' q≤dAt d q)(hb:best'≤best):BfS N mk s t d' best' k:=fun j q hj hq=>by
 obtain ⟨g1,g2⟩:=h j q hj hq;exact ⟨fun e he=>Int.le_trans (hd q) (g1 e he),fun e=>Int.le_trans hb (g2 e)⟩
set_option maxRecDepth 20000 in
set_option maxHeartbeats 8000000 in
theorem Qos (A B C NX TX:Option Addr)(n m k c d e cx ct s t:Nat)(N:Qai)(MA:Option Addr)(mc:Nat)(mk:List Bool)(w:World)(h:Qbc w A B C n m k N)(hok:Qav N) (hnx:RdT w NX m (Qkd N)) (htx:RdT w TX m (Qkl N)) (hmk:RdB w MA n mk) (hs:s<m) (ht:t<m) :
 Calls prog 101 #[.agg #[.slice A n c,.slice B m d,.slice C k e,.slice NX m cx,.slice TX m ct],.int .i64 s,.int .i64 t,.slice MA n mc] w fun r w'=>(∃ v,r=.returned (.int .i64 v)∧Qgr N mk s t v)∧Below w.heap.size w w':=by
 have HH:=Zh h;have hlm:N.ar.length=m:=h.2.1.1;have hln:N.vs.length=n:=h.1.1;have hm:m≤16384:=by rw [←hlm];exact hok.la
 have HNX:=Zh hnx;have HTX:=Zh htx;have HMK:=Zh hmk;have HLM:=Zh hlm;have HLN:=Zh hln;have i1:(0:Int)≤(s:Int):=by omega
 have i2:(s:Int)<(m:Int):=by omega
 have i3:(0:Int)≤(t:Int):=by omega
 have i4:(t:Int)<(m:Int):=by omega
 have HTB:=Zh (fun a b:Nat=>Qdu hok a b);clear h hnx htx hmk hlm hln
 go_enter func101,ntmps101
 go_wp2_with fail
 (refine Qac ?_;intro w1 hw1)
 have hb1:Below w.heap.size w w1:=by rw [hw1];exact Qaf
 have hX1:Blk w1 w.heap.size 131 #[.slice A n c,.slice B m d,.slice C k e,.slice NX m cx,.slice TX m ct]:=by rw [hw1];refine Blk.new' _ _ _ ?_;rfl
 clear hw1;with_reducible refine (Qha A B C n m k c d e (s:Int) w1 i1 i2).mono ?_
 rintro r w2 ⟨rfl,hb2⟩;have hX2:=hX1.below hb2 hX1.lt;have hb2':=Zb hb1 hb2;clear hb1 hb2 hX1;have x0:w2.cell? ⟨w.heap.size,0,none⟩=some (.slice A n c):=Zq hX2;have x1:w2.cell? ⟨w.heap.size,1,none⟩=some (.slice B m d):=Zq hX2;have x2:w2.cell? ⟨w.heap.size,2,none⟩=some (.slice C k e):=Zq hX2
 go_wp2_with fail
 with_reducible refine (Qha A B C n m k c d e (t:Int) w2 i3 i4).mono ?_
 rintro r w3 ⟨rfl,hb3⟩;have hX3:=hX2.below hb3 hX2.lt;have hb3':=Zb hb2' hb3;clear hb2' hb3 hX2 x0 x1 x2;have x1:w3.cell? ⟨w.heap.size,1,none⟩=some (.slice B m d):=Zq hX3
 go_wp2_with fail
 with_reducible refine (never_ok m w3 (by omega)).mono ?_
 rintro r w4 ⟨rfl,hD4,hb4⟩;obtain ⟨D,hDe⟩:∃ D,D=w3.heap.size:=⟨_,rfl⟩;rw [←hDe] at hD4 ⊢;have HW4:=Zh (show BfW w D #[.slice A n c,.slice B m d,.slice C k e,.slice NX m cx,.slice TX m ct] w4 (List.replicate m 1152921504606846976) from ⟨Zb hb3' hb4,hX3.below hb4 hX3.lt,hD4,by rw [hDe];exact hX3.lt⟩)
 have HI0:=Zh (BfI.start N mk s t);rw [HLM.out] at HI0;clear hDe hD4 hb4 hb3' hX3 x1
 -- the rows of the start
 have HRW:=Zh (show ∀ a,a<m→∃ nb no na nc tb to_ ta tc,NX=some ⟨nb,no,none⟩∧TX=some ⟨tb,to_,none⟩∧∀ V,Below w.heap.size w V→V.cell? ⟨nb,no+a,none⟩=some (.slice na (Qee N a).length nc)∧V.cell? ⟨tb,to_+a,none⟩=some (.slice ta (Qee N a).length tc)∧RdI V na (Qee N a).length (Qee N a)∧RdI V ta (Qee N a).length (Qqo N a) from fun a ha=>by
  obtain ⟨nb,no,na,n1,nc,l1,e1,g1,g2,g3,_,_⟩:=HNX.out.at_ ha;obtain ⟨tb,to_,ta,n2,tc,l2,e2,f1,f2,f3,_,_⟩:=HTX.out.at_ ha;rw [Qve (by rw [HLM.out];exact ha)] at g1
  cases g1
  rw [Qup (by rw [HLM.out];exact ha)] at f1
  cases f1
  have q1:n1=(Qee N a).length:=g3.1.symm;have q2:n2=(Qee N a).length:=by rw [←trn_len];exact f3.1.symm
  subst q1;rw [q2] at f2 f3;exact ⟨nb,no,na,nc,tb,to_,ta,tc,e1,e2,fun V hV=>⟨Zc hV (Zn _) g2,Zc hV (Zn _) f2,g3.below hV,f3.below hV⟩⟩)
 obtain ⟨nb,no,na,nc,tb,to_,ta,tc,rfl,rfl,hrow⟩:=HRW.out s hs;have HS:=Zh hrow;obtain ⟨ln,hlne⟩:∃ ln,ln=(Qee N s).length:=⟨_,rfl⟩;rw [←hlne] at HS;have hln4:ln≤16384:=by rw [hlne];have:=Qwg N s;have:=HLM.out;omega
 have HLE:=Zh hlne;clear hrow hlne
 go_wp2_with fail
 go_loopw [10,11] (fun ub uk V=>∃ (kk:Nat) (dl:List Int) (best:Int),kk≤ln∧uk=.int .i64 kk∧ub=.int .i64 best∧BfW w D #[.slice A n c,.slice B m d,.slice C k e,.slice (some ⟨nb,no,none⟩) m cx,.slice (some ⟨tb,to_,none⟩) m ct] V dl∧BfI N mk s t dl best∧BfS N mk s t dl best kk) (fun _ uk _=>ln-(intOf uk).toNat)
 case atStart=>exact ⟨0,_,_,Nat.zero_le _,rfl,rfl,HW4.out,HI0.out,fun j b hj=>absurd hj (Nat.not_lt_zero _)⟩
 case round =>
  obtain ⟨kk,dl,best,hkk,rfl,rfl,hW,hI,hS⟩:=hrel;have HW:=Zh hW;have HI:=Zh hI;have HSS:=Zh hS;obtain ⟨r1,r2,r3,r4⟩:=HS.out wr hW.bel;have x3:wr.cell? ⟨w.heap.size,3,none⟩=some (.slice (some ⟨nb,no,none⟩) m cx):=Zq hW.box;have x4:wr.cell? ⟨w.heap.size,4,none⟩=some (.slice (some ⟨tb,to_,none⟩) m ct):=Zq hW.box;have x1:wr.cell? ⟨w.heap.size,1,none⟩=some (.slice B m d):=Zq hW.box;have hXl:=hW.box.lt
  by_cases hlt:kk<ln
  · obtain ⟨b,hb1,hb2,hb3,hb4⟩:=nxt_at (N:=N) (a:=s) (k:=kk) (by rw [←HLE.out];exact hlt)
    obtain ⟨ab,ao,z1,rfl,hz1,c1⟩:=r3.at_ hlt;rw [hb1] at hz1
    cases hz1
    obtain ⟨bb,bo,z2,rfl,hz2,c2⟩:=r4.at_ hlt;rw [hb2] at hz2
    cases hz2
    obtain ⟨⟨yu,yv,z⟩,hy⟩:∃ y,N.ar[b]?=some y:=⟨_,Zg hb4⟩;have ho:=hok.arcs _ (Zm hy);have f0:=ho.f0;have f1:=ho.f1;have g0:=ho.g0;have g1:=ho.g1;have hzw:=Qgu ho.w;simp only at f0 f1 g0 g1 hzw;rw [HLN.out] at f1 g1;obtain ⟨u,rfl⟩:∃ u:Nat,yu=(u:Int):=⟨yu.toNat,by omega⟩;obtain ⟨v,rfl⟩:∃ v:Nat,yv=(v:Int):=⟨yv.toNat,by omega⟩;have hun:u<n:=by omega
    have hvn:v<n:=by omega
    have j1:(kk:Int)<(ln:Int):=by omega
    have j2:(b:Int)<(m:Int):=by have:=HLM.out;omega
    have HB1:=Zh hb1;have HTR:=Zh hb2;have HB3:=Zh hb3;have HY:=Zh hy;have HZW:=Zh hzw;obtain ⟨yb,yo,rfl,y0,y1,y2⟩:=(HH.out.below hW.bel).2.1.2 b _ hy;simp only at y0 y1 y2;have hub:=(HTB.out s b).resolve_left hb3;have HUB:=Zh hub;clear hW hI hS hb1 hb2 hb3 hy r3 r4 ho f0 f1 g0 g1 hzw
    have key:((((b:Int) == (t:Int))=true)∧(Qal N s b<best∧min best (Qal N s b)=Qal N s b)∧Hid (BfI N mk s t dl (Qal N s b))∧Hid (Qal N s b≤best∧(b=t→Qal N s b≤Qal N s b)))∨((((b:Int) == (t:Int))=true)∧(¬Qal N s b<best∧min best (Qal N s b)=best)∧Hid (BfI N mk s t dl best)∧Hid (best≤best∧(b=t→best≤Qal N s b)))∨((((b:Int) == (t:Int))=false)∧True∧Hid (BfI N mk s t dl best)∧Hid (best≤best∧(b=t→best≤Qal N s b))):=by
     by_cases hbt:b=t
     · have e1:((b:Int) == (t:Int))=true:=by simp;omega
       by_cases hmn:Qal N s b<best
       · exact .inl ⟨e1,⟨hmn,by omega⟩,Zh (by have:=HI.out.dir1 hok HB3.out hbt;unfold Quk at this;rwa [if_pos hmn] at this),Zh ⟨by omega,fun _=>Int.le_refl _⟩⟩
       · exact .inr (.inl ⟨e1,⟨hmn,by omega⟩,Zh HI.out,Zh ⟨Int.le_refl _,fun _=>by omega⟩⟩)
     · exact .inr (.inr ⟨by simp;omega,trivial,Zh HI.out,Zh ⟨Int.le_refl _,fun e=>absurd e hbt⟩⟩)
    obtain ⟨e1,⟨hmn,hmin⟩,HBI,HB2⟩|⟨e1,⟨hmn,hmin⟩,HBI,HB2⟩|⟨e1,hmn,HBI,HB2⟩:=key
    all_goals as_aux_lemma =>
     go_wp2_with fail
     (refine Qac ?_;intro w5 hw5)
     have hb5:Below wr.heap.size wr w5:=by rw [hw5];exact Qaf
     have hA5:Blk w5 wr.heap.size 73 #[.int .i64 u,.int .i64 v,.int .i64 z]:=by rw [hw5];exact Blk.new _ _ _
     clear hw5;have HW5:=Zh (HW.out.below hb5);clear r1 r2 c1 c2 y0 y1 y2 x1 x3 x4 hb5;have a0:w5.cell? ⟨wr.heap.size,0,none⟩=some (.int .i64 u):=Zq hA5;have a1:w5.cell? ⟨wr.heap.size,1,none⟩=some (.int .i64 v):=Zq hA5;have a2:w5.cell? ⟨wr.heap.size,2,none⟩=some (.int .i64 z):=Zq hA5;with_reducible refine (Qeg MA n mc u mk w5 (HMK.out.below HW5.out.bel) hun).mono ?_
     rintro r w' ⟨rfl,rfl⟩
     cases hmu:mk.getD u false with
     | false =>
      have HSN:=Zh (HSS.out.next HB1.out (fun q=>Int.le_refl _) HB2.out.1 (fun e he=>absurd ((Qki HY.out).1 he).2.2.1.1 (by simp only [Yl];rw [hmu];decide)) HB2.out.2);clear hmu a0 a1 a2
      go_wp2_with fail
      go_roundw
      case rel=>exact ⟨kk+1,dl,_,by omega,by go_num,rfl,HW5.out,HBI.out,HSN.out⟩
      case measure=>simp [intOf];omega
     | true =>
      have HMU:=Zh hmu;clear hmu
      go_wp2_with fail
      with_reducible refine (Qeg MA n mc v mk w5 (HMK.out.below HW5.out.bel) hvn).mono ?_
      rintro r w' ⟨rfl,rfl⟩
      cases hmv:mk.getD v false with
      | false =>
       have HSN:=Zh (HSS.out.next HB1.out (fun q=>Int.le_refl _) HB2.out.1 (fun e he=>absurd ((Qki HY.out).1 he).2.2.1.2 (by simp only [Yl];rw [hmv];decide)) HB2.out.2);clear hmv a0 a1 a2
       go_wp2_with fail
       go_roundw
       case rel=>exact ⟨kk+1,dl,_,by omega,by go_num,rfl,HW5.out,HBI.out,HSN.out⟩
       case measure=>simp [intOf];omega
      | true =>
       have HWI:=Zh (show Wi mk ((u:Int),(v:Int),z) from ⟨by simp only [Yl];exact HMU.out,by simp only [Yl];exact hmv⟩)
       clear hmv
       by_cases hzi:z=1152921504606846976
       · have HSN:=Zh (HSS.out.next HB1.out (fun q=>Int.le_refl _) HB2.out.1 (fun e he=>absurd hzi ((Qki HY.out).1 he).2.1) HB2.out.2)
         subst hzi;clear a0 a1
         go_wp2_with fail
         go_roundw
         case rel=>exact ⟨kk+1,dl,_,by omega,by go_num,rfl,HW5.out,HBI.out,HSN.out⟩
         case measure=>simp [intOf];omega
       · have e2:(z != 1152921504606846976)=true:=by simpa using hzi
         have HZI:=Zh hzi;clear hzi;obtain ⟨r1,r2,r3,r4⟩:=HS.out w5 HW5.out.bel;obtain ⟨bb',bo',eb,c2⟩:=r4.2 kk _ HTR.out
         cases eb
         obtain ⟨dx,hdx⟩:∃ dx,dl[b]?=some dx:=⟨_,Zg (by rw [HI.out.len,HLM.out];omega)⟩;have d0:=HW5.out.row.cellI hdx;have df:=HW5.out.row.frozen b;have x4:w5.cell? ⟨w.heap.size,4,none⟩=some (.slice (some ⟨tb,to_,none⟩) m ct):=Zq HW5.out.box;have hzb:=HZW.out.resolve_left HZI.out;have HAD:=Zh (fun V=>Qkj (Qal N s b) z V (by have:=HUB.out;omega) (by omega));have hd2:=HBI.out.dir2 hok HY.out HB3.out HZI.out HWI.out;rw [Qea hdx] at hd2;have HD2:=Zh hd2;have HDX:=Zh hdx;clear r1 r3 r4 hdx hzb hd2 a0 a1
         go_wp2_with fail
         refine Qbf 19 (S:=fun V=>V=w5.drew) (by kernel_rfl) rfl (fun _=>?_);refine tkF 0 89 (h:=⟨_,tv,?_⟩);simp only [pE,List.set];refine tkF 1 90 (h:=⟨_,tv,?_⟩);simp only [pE,List.set];refine tkF 2 91 (h:=⟨_,tv,?_⟩);simp only [pE,List.set];refine tkF 3 92 (h:=⟨_,tv,?_⟩);simp only [pE,List.set];refine tkF 4 93 (h:=⟨_,tv,?_⟩);simp only [pE,List.set];refine tkK 5 94 (h:=⟨_,tv,?_⟩);simp only [pE,List.set];refine tkF 6 95 (h:=⟨_,tv,?_⟩);simp only [pE,List.set];refine tkK 7 96 (h:=⟨_,tv,?_⟩);simp only [pE,List.set];refine tkF 8 97 (h:=⟨_,tv,?_⟩);simp only [pE,List.set];refine tkF 9 98 (h:=⟨_,tv,?_⟩);simp only [pE,List.set];refine tkK 10 99 (h:=⟨_,tv,?_⟩);simp only [pE,List.set];refine tkF 11 100 (h:=⟨_,tv,?_⟩);simp only [pE,List.set];refine tkF 12 101 (h:=⟨_,tv,?_⟩);simp only [pE,List.set];refine tkK 13 102 (h:=⟨_,tv,?_⟩);simp only [pE,List.set];refine tkF 14 103 (h:=⟨_,tv,?_⟩);simp only [pE,List.set];refine tkK 15 104 (h:=⟨_,tv,?_⟩);simp only [pE,List.set];refine Qbb (i:=16) (by kernel_rfl) (by rfl) rfl (fun K hK=>?_);go_simp;with_reducible refine (HAD.out _).mono ?_
         rintro e w' ⟨rfl,rfl⟩;go_simp;refine hK.out _ _ rfl (fun _=>?_);clear hK K;refine tkF 17 106 (h:=⟨_,tv,?_⟩);simp only [pE,List.set];refine tkF 18 107 (h:=⟨_,tv,?_⟩);simp only [pE,List.set];refine Qbs (k:=19) (by kernel_rfl) rfl (fun K hK=>?_);go_simp;refine hK.out _ _ ?_;clear hK K;refine Qbm (by kernel_rfl) ?_ _
         first | rw [show (if Qen (Qal N s b) z<dx then Qen (Qal N s b) z else dx)=Quk dx (Qen (Qal N s b) z) from rfl] | rw [show min dx (Qen (Qal N s b) z)=Quk dx (Qen (Qal N s b) z) from by unfold Quk;split <;> omega]
         have hbl:b<dl.length:=(Zs HDX.out).1
         have hmi:Quk dx (Qen (Qal N s b) z)≤dx∧Quk dx (Qen (Qal N s b) z)≤Qen (Qal N s b) z:=by unfold Quk;split <;> omega
         have HW6:=Zh ((HW5.out.set b (Quk dx (Qen (Qal N s b) z))).below (Zr _ _).drew)
         have HSN:=Zh (HSS.out.next HB1.out (d':=dl.set b (Quk dx (Qen (Qal N s b) z))) (fun q=>by
          rw [Qqy hbl]
          split
          · rename_i e;rw [←e,Qea HDX.out];exact hmi.1
          · exact Int.le_refl _) HB2.out.1 (fun e he=>by
          have:=((Qki HY.out).1 he).2.2.2;simp only at this;have h2:=HD2.out.1;rw [Qqy hbl,if_pos rfl];omega) HB2.out.2)
         clear hbl hmi a2 r2 c2 d0 df x4
         go_wp2_with fail
         go_roundw
         case rel=>exact ⟨kk+1,_,_,by omega,by go_num,rfl,HW6.out,HD2.out.2,HSN.out⟩
         case measure=>simp [intOf];omega
  · obtain rfl:kk=ln:=by omega
    have HSF:=Zh (show BfS N mk s t dl best (Qee N s).length by rw [←HLE.out];exact hS)
    have j1:¬((kk:Int)<(kk:Int)):=by omega
    clear hI hS r3 r4 HSS
    go_wp2_with fail
    go_loopw [10,14] (fun ub um V=>∃ (dl:List Int) (best:Int) (more:Bool),um=.bool more∧ub=.int .i64 best∧BfW w D #[.slice A n c,.slice B m d,.slice C k e,.slice (some ⟨nb,no,none⟩) m cx,.slice (some ⟨tb,to_,none⟩) m ct] V dl∧BfI N mk s t dl best∧BfS N mk s t dl best (Qee N s).length∧(more=false→BfR N mk t dl best m 0)) (fun _ um V=>2*Qvm (rowOf V D)+(match um with|.bool true=>1|_=>0))
    case atStart=>exact ⟨dl,best,true,rfl,rfl,HW.out,HI.out,HSF.out,fun h=>by cases h⟩
    case round =>
     clear HW HI HSF;obtain ⟨dl,best,more,rfl,rfl,hW,hI,hS,hR⟩:=hrel;have HW:=Zh hW;have HI:=Zh hI;have HSS:=Zh hS
     cases more with
     | false =>
      have hfin:=hI.fin hok hS (by rw [HLM.out];exact hR rfl);clear hW hI hS hR
      go_wp2_with fail
      go_ret
      exact ⟨⟨best,rfl,hfin⟩,HW.out.bel⟩
     | true =>
      clear hW hI hS hR
      go_wp2_with fail
      obtain ⟨wo,hwo⟩:∃ wo,wo=wr:=⟨_,rfl⟩;subst hwo
      go_loopw [10,14,15] (fun ub um ua V=>∃ (dl2:List Int) (best2:Int) (more:Bool) (a:Nat),a≤m∧um=.bool more∧ub=.int .i64 best2∧ua=.int .i64 a∧BfW w D #[.slice A n c,.slice B m d,.slice C k e,.slice (some ⟨nb,no,none⟩) m cx,.slice (some ⟨tb,to_,none⟩) m ct] V dl2∧BfI N mk s t dl2 best2∧BfS N mk s t dl2 best2 (Qee N s).length∧Qvm dl2≤Qvm dl∧(more=true→Qvm dl2<Qvm dl)∧(more=false→BfR N mk t dl2 best2 a 0)) (fun _ _ ua _=>m-(intOf ua).toNat)
      case atStart=>exact ⟨dl,best,false,0,Nat.zero_le _,rfl,rfl,rfl,HW.out,HI.out,HSS.out,Zn _,(fun h=>by cases h),fun _ p j b hp=>by omega⟩
      case round =>
       obtain ⟨dl2,best2,more,a,ha,rfl,rfl,rfl,hW2,hI2,hS2,hle2,hlt2,hR2⟩:=hrel;have HW2:=Zh hW2;have HI2:=Zh hI2;have HS2:=Zh hS2;have HR2:=Zh hR2;have HLT2:=Zh hlt2
       by_cases ham:a<m
       rotate_left
       · obtain rfl:a=m:=by omega
         have j2:¬((a:Int)<(a:Int)):=by omega
         have hm1:=Qoz HW.out.row;have hm2:=Qoz hW2.row;clear hW2 hI2 hS2 hR2 hlt2
         go_wp2_with fail
         go_roundw
         case rel=>exact ⟨dl2,best2,more,rfl,rfl,HW2.out,HI2.out,HS2.out,HR2.out⟩
         case measure =>
          rw [hm1,hm2]
          cases more with
          | false=>simp;omega
          | true=>have:=HLT2.out rfl;simp;omega
       · obtain ⟨nb2,no2,na2,nc2,tb2,to2,ta2,tc2,e1,e2,hrow⟩:=HRW.out a ham
         cases e1
         cases e2
         have HS3:=Zh hrow;obtain ⟨ln2,hlne⟩:∃ ln2,ln2=(Qee N a).length:=⟨_,rfl⟩;rw [←hlne] at HS3;have hln5:ln2≤16384:=by rw [hlne];have:=Qwg N a;have:=HLM.out;omega
         have HLE2:=Zh hlne;have j1:(a:Int)<(m:Int):=by omega
         have j0:(0:Int)≤(a:Int):=by omega
         clear hrow hlne hW2 hI2 hS2 hR2 hlt2
         go_wp2_with fail
         go_loopw [10,14,16] (fun ub um uk V=>∃ (kk:Nat) (dl3:List Int) (best3:Int) (more3:Bool),kk≤ln2∧uk=.int .i64 kk∧um=.bool more3∧ub=.int .i64 best3∧BfW w D #[.slice A n c,.slice B m d,.slice C k e,.slice (some ⟨nb,no,none⟩) m cx,.slice (some ⟨tb,to_,none⟩) m ct] V dl3∧BfI N mk s t dl3 best3∧BfS N mk s t dl3 best3 (Qee N s).length∧Qvm dl3≤Qvm dl∧(more3=true→Qvm dl3<Qvm dl)∧(more3=false→BfR N mk t dl3 best3 a kk)) (fun _ _ uk _=>ln2-(intOf uk).toNat)
         case atStart=>exact ⟨0,dl2,best2,more,Nat.zero_le _,rfl,rfl,rfl,HW2.out,HI2.out,HS2.out,hle2,HLT2.out,HR2.out⟩
         case round =>
          obtain ⟨kk,dl3,best3,more3,hkk,rfl,rfl,rfl,hW3,hI3,hS3,hle3,hlt3,hR3⟩:=hrel;have HW3:=Zh hW3;have HI3:=Zh hI3;have HBS3:=Zh hS3;have HLE3:=Zh hle3;have HLT3:=Zh hlt3;have HR3:=Zh hR3;obtain ⟨r1,r2,r3,r4⟩:=HS3.out wr hW3.bel;have x3:wr.cell? ⟨w.heap.size,3,none⟩=some (.slice (some ⟨nb,no,none⟩) m cx):=Zq hW3.box;have x4:wr.cell? ⟨w.heap.size,4,none⟩=some (.slice (some ⟨tb,to_,none⟩) m ct):=Zq hW3.box;have hXl:=hW3.box.lt;obtain ⟨da,hda⟩:∃ da,dl3[a]?=some da:=⟨_,Zg (by rw [HI3.out.len,HLM.out];exact ham)⟩;have d0:=hW3.row.cellI hda;have HDA:=Zh hda;clear hW3 hI3 hS3 hle3 hlt3 hR3 hda HW2 HI2 HS2 HR2 HLT2 hle2
          by_cases hlt:kk<ln2
          rotate_left
          · obtain rfl:kk=ln2:=by omega
            have j2:¬((kk:Int)<(kk:Int)):=by omega
            have HEX:=Zh (fun h=>(HR3.out h).up (.inl (by rw [←HLE2.out];exact Zn _)));clear r3 r4
            go_wp2_with fail
            go_roundw
            case rel=>exact ⟨dl3,best3,more3,a+1,by omega,rfl,rfl,by go_num,HW3.out,HI3.out,HBS3.out,HLE3.out,HLT3.out,HEX.out⟩
            case measure=>simp [intOf];omega
          have j2:(kk:Int)<(ln2:Int):=by omega
          by_cases hdl:da<1152921504606846976
          rotate_left
          · have HEX:=Zh (fun h=>(HR3.out h).up (.inr (by rw [Qea HDA.out];exact hdl)))
            clear r3 r4
            go_wp2_with fail
            go_roundw
            case rel=>exact ⟨dl3,best3,more3,a+1,by omega,rfl,rfl,by go_num,HW3.out,HI3.out,HBS3.out,HLE3.out,HLT3.out,HEX.out⟩
            case measure=>simp [intOf];omega
          obtain ⟨b,hb1,hb2,hb3,hb4⟩:=nxt_at (N:=N) (a:=a) (k:=kk) (by rw [←HLE2.out];exact hlt);obtain ⟨ab,ao,z1,rfl,hz1,c1⟩:=r3.at_ hlt;rw [hb1] at hz1
          cases hz1
          obtain ⟨bb,bo,z2,rfl,hz2,c2⟩:=r4.at_ hlt;rw [hb2] at hz2
          cases hz2
          obtain ⟨⟨yu,yv,z⟩,hy⟩:∃ y,N.ar[b]?=some y:=⟨_,Zg hb4⟩;have ho:=hok.arcs _ (Zm hy);have f0:=ho.f0;have f1:=ho.f1;have g0:=ho.g0;have g1:=ho.g1;have hzw:=Qgu ho.w;simp only at f0 f1 g0 g1 hzw;rw [HLN.out] at f1 g1;obtain ⟨u,rfl⟩:∃ u:Nat,yu=(u:Int):=⟨yu.toNat,by omega⟩;obtain ⟨v,rfl⟩:∃ v:Nat,yv=(v:Int):=⟨yv.toNat,by omega⟩;have hun:u<n:=by omega
          have hvn:v<n:=by omega
          have j3:(0:Int)≤(kk:Int):=by omega
          have j4:(b:Int)<(m:Int):=by have:=HLM.out;omega
          have j5:(0:Int)≤(b:Int):=by omega
          have hz0:0≤z:=by omega
          have hz9:z≤1152921504606846976:=by omega
          have hda0:0≤da:=by
           rcases HI3.out.at_ a with h|⟨h,_,_⟩ <;> rw [Qea HDA.out] at h <;> omega
          have hub:=(HTB.out a b).resolve_left hb3;have hub9:Qal N a b≤1152921504606846976:=by omega
          have hcb:=Qiu hda0 hub.1;have HAD:=Zh (fun V=>Qkj da (Qal N a b) V ⟨hda0,by omega⟩ ⟨hub.1,hub9⟩);obtain ⟨cc,hcc⟩:∃ cc,cc=Qen da (Qal N a b):=⟨_,rfl⟩;rw [←hcc] at hcb;have HAZ:=Zh (fun V=>Qkj cc z V ⟨hcb.1,hcb.2.1⟩ ⟨hz0,hz9⟩);have HCC:=Zh hcc;have HCD:=Zh (show Qen (dAt dl3 a) (Qal N a b)=cc by rw [Qea HDA.out];exact hcc.symm)
          have HDI:=Zh (show dAt dl3 a<1152921504606846976 by rw [Qea HDA.out];exact hdl)
          have HD0:=Zh (show 0≤dAt dl3 a by rw [Qea HDA.out];exact hda0)
          obtain ⟨db,hdb⟩:∃ db,dl3[b]?=some db:=⟨_,Zg (by rw [HI3.out.len];exact hb4)⟩;have HDB:=Zh hdb;have HZ0:=Zh (show 0≤(((u:Int),(v:Int),z):Tri).2.2 from hz0)
          have HB1:=Zh hb1;have HB3:=Zh hb3;have HY:=Zh hy;clear hb1 hb2 hb3 hb4 hy r3 r4 ho f0 f1 g0 g1 hzw hub hub9 hcc hdb hcb
          go_wp2_with fail
          refine wp_region_held_drew (S:=fun V=>V=wr.drew) (by kernel_rfl) rfl (fun _=>?_);refine tz 0 140 ?_;refine tz 1 141 ?_;refine tz 2 142 ?_;refine tz 3 143 ?_;refine tz 4 144 ?_;refine tz 5 145 ?_;refine tz 6 146 ?_;refine tz 7 147 ?_;refine tz 8 148 ?_;refine tz 9 149 ?_;refine tz 10 150 ?_;refine tz 11 151 ?_;refine Zk 12 (fun K hK=>?_);go_simp;with_reducible refine (HAD.out _).mono ?_
          rintro r w' ⟨rfl,rfl⟩;rw [←HCC.out];go_simp;refine hK.out _ _ rfl (fun _=>?_);clear hK K;refine tz 13 18 ?_;refine Zd ?_;obtain ⟨w4,hw4⟩:∃ w4,w4=wr.drew:=⟨_,rfl⟩;rw [←hw4];have hb4:Below wr.heap.size wr w4:=by rw [hw4];exact (Zr _ _).drew
          have HW4:=Zh (HW3.out.below hb4);clear hw4 hb4 HAD r1 r2 c1 c2 x3 x4 d0 hXl;obtain ⟨yb,yo,rfl,y0,y1,y2⟩:=(HH.out.below HW4.out.bel).2.1.2 b _ HY.out;simp only at y0 y1 y2;have x1:w4.cell? ⟨w.heap.size,1,none⟩=some (.slice (some ⟨yb,yo,none⟩) m d):=Zq HW4.out.box;have hXl:=HW4.out.box.lt
          have key:((((b:Int) == (t:Int))=true)∧cc<best3∧Hid (BfI N mk s t dl3 cc)∧Hid (BfS N mk s t dl3 cc (Qee N s).length)∧Hid (more3=false→BfR N mk t dl3 cc a kk)∧Hid (b=t→cc≤cc))∨((((b:Int) == (t:Int))=true)∧¬cc<best3∧Hid (BfI N mk s t dl3 best3)∧Hid (BfS N mk s t dl3 best3 (Qee N s).length)∧Hid (more3=false→BfR N mk t dl3 best3 a kk)∧Hid (b=t→best3≤cc))∨((((b:Int) == (t:Int))=false)∧True∧Hid (BfI N mk s t dl3 best3)∧Hid (BfS N mk s t dl3 best3 (Qee N s).length)∧Hid (more3=false→BfR N mk t dl3 best3 a kk)∧Hid (b=t→best3≤cc)):=by
           by_cases hbt:b=t
           · have e3:((b:Int) == (t:Int))=true:=by simp;omega
             by_cases hmn:cc<best3
             · refine .inl ⟨e3,hmn,Zh ?_,Zh (HBS3.out.less (fun q=>Int.le_refl _) (Int.le_of_lt hmn)),Zh (fun h=>(HR3.out h).less (Int.le_of_lt hmn)),Zh (fun _=>Int.le_refl _)⟩
               have:=HI3.out.nb hok HDI.out HB3.out hbt (by rw [HCD.out];exact hmn)
               rwa [HCD.out] at this
             · exact .inr (.inl ⟨e3,hmn,Zh HI3.out,Zh HBS3.out,Zh HR3.out,Zh (fun _=>by omega)⟩)
           · exact .inr (.inr ⟨by simp;omega,trivial,Zh HI3.out,Zh HBS3.out,Zh HR3.out,Zh (fun e=>absurd e hbt)⟩)
          obtain ⟨e3,hmn,HBI,HBS,HBR,HBB⟩|⟨e3,hmn,HBI,HBS,HBR,HBB⟩|⟨e3,hmn,HBI,HBS,HBR,HBB⟩:=key
          all_goals as_aux_lemma =>
           clear HI3 HBS3 HR3
           go_wp2_with fail
           (refine Qag ?_;intro w5 hw5)
           have hb5:Below w4.heap.size w4 w5:=by rw [hw5];exact Qaf
           have hA5:Blk w5 w4.heap.size 73 #[.int .i64 u,.int .i64 v,.int .i64 z]:=by rw [hw5];exact Blk.new _ _ _
           clear hw5;have HW5:=Zh (HW4.out.below hb5);clear y0 y1 y2 x1 hb5;have a0:w5.cell? ⟨w4.heap.size,0,none⟩=some (.int .i64 u):=Zq hA5;have a1:w5.cell? ⟨w4.heap.size,1,none⟩=some (.int .i64 v):=Zq hA5;have a2:w5.cell? ⟨w4.heap.size,2,none⟩=some (.int .i64 z):=Zq hA5;have d0:=HW5.out.row.cellI HDB.out;have df:=HW5.out.row.frozen b;obtain ⟨m1,hm1⟩:∃ m1,m1=mk.getD u false:=⟨_,rfl⟩;obtain ⟨m2,hm2⟩:∃ m2,m2=mk.getD v false:=⟨_,rfl⟩;have HM1:=Zh (show Calls prog 143 #[.slice MA n mc,.int .i64 u] w5.drew (fun e w'=>e=.returned (.bool m1)∧w5.drew=w') from hm1▸Qeg MA n mc u mk w5.drew (HMK.out.below HW5.out.bel.drew) hun)
           have HM2:=Zh (show Calls prog 143 #[.slice MA n mc,.int .i64 v] w5.drew (fun e w'=>e=.returned (.bool m2)∧w5.drew=w') from hm2▸Qeg MA n mc v mk w5.drew (HMK.out.below HW5.out.bel.drew) hvn)
           have HE1:=Zh hm1;have HE2:=Zh hm2;clear hm1 hm2 hA5;refine wp_region_held_drew (S:=fun V=>V=w5.drew) (by kernel_rfl) rfl (fun _=>?_);refine tz 0 168 ?_;refine tz 1 169 ?_;refine tz 2 170 ?_;refine Zk 3 (fun K hK=>?_);go_simp;with_reducible refine HM1.out.mono ?_
           rintro r w' ⟨rfl,rfl⟩;go_simp;refine hK.out _ _ rfl (fun _=>?_);clear hK K
           cases m1 with
           | false =>
            refine tz 4 172 ?_;refine tw 5 173 ?_;refine tw 6 174 ?_;refine tw 7 175 ?_;refine tw 8 176 ?_;refine tz 9 177 ?_;refine tz 10 178 ?_;refine tw 11 179 ?_;refine tw 12 180 ?_;refine tw 13 181 ?_;refine tw 14 182 ?_;refine tw 15 183 ?_;refine tw 16 184 ?_;refine tw 17 185 ?_;refine tw 18 186 ?_;refine tw 19 187 ?_;refine tz 20 188 ?_;refine Zd ?_;have HNO:=Zh (show Wi mk ((u:Int),(v:Int),z)→dAt dl3 b≤Qen cc z from fun h=>by have:=h.1;simp only [Yl] at this;rw [←HE1.out] at this;cases this)
            have HRN:=Zh (fun h=>BfR.nx (y:=((u:Int),(v:Int),z)) hok (HBR.out h) HB1.out HD0.out HB3.out HY.out HZ0.out (by rw [HCD.out];exact HBB.out) (by rw [HCD.out];exact HNO.out));have HW6:=Zh (HW5.out.below (Zr _ _).drew);clear a0 a1 a2 d0 df HM1 HM2
            go_wp2_with fail
            go_roundw
            case rel=>exact ⟨kk+1,dl3,_,more3,by omega,by go_num,rfl,rfl,HW6.out,HBI.out,HBS.out,HLE3.out,HLT3.out,HRN.out⟩
            case measure=>simp [intOf];omega
           | true =>
            refine tz 4 172 ?_;refine tz 5 173 ?_;refine tz 6 174 ?_;refine tz 7 175 ?_;refine Zk 8 (fun K hK=>?_);go_simp;with_reducible refine HM2.out.mono ?_
            rintro r w' ⟨rfl,rfl⟩;go_simp;refine hK.out _ _ rfl (fun _=>?_);clear hK K
            cases m2 with
            | false =>
             refine tz 9 177 ?_;refine tz 10 178 ?_;refine tw 11 179 ?_;refine tw 12 180 ?_;refine tw 13 181 ?_;refine tw 14 182 ?_;refine tw 15 183 ?_;refine tw 16 184 ?_;refine tw 17 185 ?_;refine tw 18 186 ?_;refine tw 19 187 ?_;refine tz 20 188 ?_;refine Zd ?_;have HNO:=Zh (show Wi mk ((u:Int),(v:Int),z)→dAt dl3 b≤Qen cc z from fun h=>by have:=h.2;simp only [Yl] at this;rw [←HE2.out] at this;cases this)
             have HRN:=Zh (fun h=>BfR.nx (y:=((u:Int),(v:Int),z)) hok (HBR.out h) HB1.out HD0.out HB3.out HY.out HZ0.out (by rw [HCD.out];exact HBB.out) (by rw [HCD.out];exact HNO.out));have HW6:=Zh (HW5.out.below (Zr _ _).drew);clear a0 a1 a2 d0 df HM1 HM2
             go_wp2_with fail
             go_roundw
             case rel=>exact ⟨kk+1,dl3,_,more3,by omega,by go_num,rfl,rfl,HW6.out,HBI.out,HBS.out,HLE3.out,HLT3.out,HRN.out⟩
             case measure=>simp [intOf];omega
            | true =>
             refine tz 9 177 ?_;refine tz 10 178 ?_;refine tz 11 179 ?_;refine tz 12 180 ?_;refine tz 13 181 ?_;refine tz 15 183 ?_;refine tz 16 184 ?_;refine tz 17 185 ?_;refine tz 18 186 ?_;refine Zk 14 (fun K hK=>?_);go_simp;with_reducible refine (HAZ.out _).mono ?_
             rintro r w' ⟨rfl,rfl⟩;go_simp;refine hK.out _ _ rfl (fun _=>?_);clear hK K;refine tz 19 187 ?_;refine tz 20 188 ?_;refine Zd ?_
             by_cases hls:Qen cc z<db
             rotate_left
             · have HNO:=Zh (show Wi mk ((u:Int),(v:Int),z)→dAt dl3 b≤Qen cc z from fun _=>by rw [Qea HDB.out];omega)
               have HRN:=Zh (fun h=>BfR.nx (y:=((u:Int),(v:Int),z)) hok (HBR.out h) HB1.out HD0.out HB3.out HY.out HZ0.out (by rw [HCD.out];exact HBB.out) (by rw [HCD.out];exact HNO.out));have HW6:=Zh (HW5.out.below (Zr _ _).drew);clear a0 a1 a2 d0 df HM1 HM2
               go_wp2_with fail
               go_roundw
               case rel=>exact ⟨kk+1,dl3,_,more3,by omega,by go_num,rfl,rfl,HW6.out,HBI.out,HBS.out,HLE3.out,HLT3.out,HRN.out⟩
               case measure=>simp [intOf];omega
             · have HWI:=Zh (show Wi mk ((u:Int),(v:Int),z) from ⟨by simp only [Yl];exact HE1.out.symm,by simp only [Yl];exact HE2.out.symm⟩)
               have hnd:=HBI.out.nd (b:=b) (y:=((u:Int),(v:Int),z)) hok HDI.out HB3.out HY.out HZ0.out HWI.out;rw [HCD.out,Qea HDB.out] at hnd;have HND:=Zh (hnd hls);have HSU:=Zh (Qth dl3 b (Qen cc z) db HDB.out HND.out.2 hls)
               have HDS:=Zh (show ∀ q,dAt (dl3.set b (Qen cc z)) q≤dAt dl3 q from fun q=>by
                rw [Qqy (Zs HDB.out).1]
                split
                · rename_i e;rw [←e,Qea HDB.out];omega
                · exact Int.le_refl _)
               have HSN:=Zh (HBS.out.less HDS.out (Int.le_refl _));have HW6:=Zh ((HW5.out.below (Zr _ _).drew).set b (Qen cc z));clear hnd
               go_wp2_with fail
               with_reducible refine (HAZ.out _).mono ?_
               rintro r w' ⟨rfl,rfl⟩
               go_wp2_with fail
               go_roundw
               case rel=>exact ⟨kk+1,_,_,true,by omega,by go_num,rfl,rfl,HW6.out,HND.out.1,HSN.out,by have:=HSU.out;have:=HLE3.out;omega,fun _=>by have:=HSU.out;have:=HLE3.out;omega,fun h=>by cases h⟩
               case measure=>simp [intOf];omega
theorem Qyl {G:Nat→Prop}{W:World}{g:Nat}(hg:¬G g)(v0 v1 v2 v3 v4:Value):Qax G W (((((W.setCell ⟨g,0,none⟩ v0).setCell ⟨g,1,none⟩ v1).setCell ⟨g,2,none⟩ v2).setCell ⟨g,3,none⟩ v3).setCell ⟨g,4,none⟩ v4):=fun b hb hl=>by
 have key:∀ (W':World) (o:Nat) (v:Value),b<W'.heap.size→(W'.setCell ⟨g,o,none⟩ v).heap[b]?=W'.heap[b]?∧b<(W'.setCell ⟨g,o,none⟩ v).heap.size:=fun W' o v h'=>⟨(Qab W' g o v).block b h' (fun e=>hg (by cases e;exact hb)),by simpa [World.setCell] using h'⟩
 obtain ⟨e0,h0⟩:=key W 0 v0 hl;obtain ⟨e1,h1⟩:=key _ 1 v1 h0;obtain ⟨e2,h2⟩:=key _ 2 v2 h1;obtain ⟨e3,h3⟩:=key _ 3 v3 h2;obtain ⟨e4,h4⟩:=key _ 4 v4 h3;rw [e4,e3,e2,e1,e0]
def OfPost (w:World)(xA xB xC:Value)(m:Nat)(N:Qai)(r:Ending)(w':World):Prop :=
 ∃ (NX:Option Addr) (cx:Nat) (TX:Option Addr) (ct:Nat),r=.returned (.agg #[xA,xB,xC,.slice NX m cx,.slice TX m ct])∧RdT w' NX m (Qkd N)∧RdT w' TX m (Qkl N)∧Below w.heap.size w w'
structure OfW (w W:World) (xA xB xC:Value):Prop where
 bel:Below w.heap.size w W
 net:Blk W w.heap.size 26 #[xA,xB,xC]
 res:Blk W (w.heap.size+1) 131 #[.slice none 0 0,.slice none 0 0,.slice none 0 0,.slice none 0 0,.slice none 0 0]
 box:Blk W (w.heap.size+1+1) 131 #[xA,xB,xC,.slice none 0 0,.slice none 0 0]
 size:w.heap.size+5≤W.heap.size
section
variable {w W W':World} {xA xB xC:Value}
theorem OfW.below (h:OfW w W xA xB xC)(hb:Below W.heap.size W W'):OfW w W' xA xB xC:=⟨Zb h.bel hb,h.net.below hb h.net.lt,h.res.below hb h.res.lt,h.box.below hb h.box.lt,Yx h.size hb.size⟩
theorem OfW.grown (h:OfW w W xA xB xC){r:Option Nat}(hg:W.grownBy W' r)(hr:∀ g,r=some g→w.heap.size+3≤g):OfW w W' xA xB xC :=
 ⟨h.bel.grown hg h.bel.size (fun g e=>by have:=hr g e;omega),h.net.grown hg (fun e=>by have:=hr _ e;omega),h.res.grown hg (fun e=>by have:=hr _ e;omega),h.box.grown hg (fun e=>by have:=hr _ e;omega),Yx h.size hg.size⟩
end
structure OfR (w wB V:World) (xA xB xC:Value) (AN:Option Addr) (cN:Nat) (xN:List Value) (lN:List (List Int)) (AT:Option Addr) (cT:Nat) (xT:List Value) (lT:List (List Int)):Prop where
 kept:Qax (fun b=>b≠w.heap.size+1+1) wB V
 size:wB.heap.size≤V.heap.size
 bel:Below w.heap.size w V
 box:Blk V (w.heap.size+1+1) 131 #[xA,xB,xC,.slice AN lN.length cN,.slice AT lT.length cT]
 tw:Tw 93 30 wB.heap.size V AN cN xN lN AT cT xT lT
section
variable {w wB V V':World} {xA xB xC:Value} {AN AT:Option Addr} {cN cT:Nat} {xN xT:List Value} {lN lT:List (List Int)}
theorem OfR.below (h:OfR w wB V xA xB xC AN cN xN lN AT cT xT lT)(hb:Below V.heap.size V V'):OfR w wB V' xA xB xC AN cN xN lN AT cT xT lT :=
 ⟨h.kept.trans (Qax.below hb) h.size,Yx h.size hb.size,Zb h.bel hb,h.box.below hb h.box.lt,h.tw.below hb⟩
theorem OfR.pushN {R A3:Option Addr}{d c3:Nat}{l:List Int}(h:OfR w wB V xA xB xC AN cN xN lN AT cT xT lT)(hz:w.heap.size+5≤wB.heap.size) (hr:RdI (msk V (GG wB.heap.size V AN AT)) R l.length l) (k1:l.length≤d) (k2:d≤9223372036854775807)
 (ho:Own V' wB.heap.size 93 1 A3 (lN.length+1) c3 (xN ++[.slice R l.length d])) (hg:V.grownBy V' (Qaa AN)) (hat:Qaa A3=Qaa AN∨Qaa A3=some V.heap.size) :
 OfR w wB (V'.setCell ⟨w.heap.size+1+1,3,none⟩ (.slice A3 (lN.length+1) c3)) xA xB xC A3 c3 (xN ++[.slice R l.length d]) (lN ++[l]) AT cT xT lT:=by
 have hA:∀ g,Qaa AN=some g→wB.heap.size≤g:=fun g e=>(h.tw.o1.lt g e).1
 have hz':wB.heap.size≤V'.heap.size:=Yx h.size hg.size;have hbx:=(h.box.grown hg (fun e=>by have:=hA _ e;omega)).set_ 3 (.slice A3 (lN.length+1) c3);refine ⟨fun b hb hl=>?_,by simpa [World.setCell] using hz',?_,?_,(h.tw.push hr k1 k2 ho hg hat).set (by omega) _ _⟩
 · have h1:=h.kept b hb hl
   have h2:=hg.block b (by have:=h.size;omega) (fun e=>by have:=hA b e.symm;omega);have h3:=(Qab V' (w.heap.size+1+1) 3 (.slice A3 (lN.length+1) c3)).block b (by have:=h.size;have:=hg.size;omega) (fun e=>hb (by cases e;rfl))
   exact h3.trans (h2.trans h1)
 · exact Zi (h.bel.grown hg h.bel.size (fun g e=>by have:=hA g e;omega)) (by omega)
 · rw [Yp]
   simpa using hbx
theorem OfR.pushT {R A3:Option Addr}{d c3:Nat}{l:List Int}(h:OfR w wB V xA xB xC AN cN xN lN AT cT xT lT)(hz:w.heap.size+5≤wB.heap.size) (hr:RdI (msk V (GG wB.heap.size V AN AT)) R l.length l) (k1:l.length≤d) (k2:d≤9223372036854775807)
 (ho:Own V' wB.heap.size 30 1 A3 (lT.length+1) c3 (xT ++[.slice R l.length d])) (hg:V.grownBy V' (Qaa AT)) (hat:Qaa A3=Qaa AT∨Qaa A3=some V.heap.size) :
 OfR w wB (V'.setCell ⟨w.heap.size+1+1,4,none⟩ (.slice A3 (lT.length+1) c3)) xA xB xC AN cN xN lN A3 c3 (xT ++[.slice R l.length d]) (lT ++[l]):=by
 have hA:∀ g,Qaa AT=some g→wB.heap.size≤g:=fun g e=>(h.tw.o2.lt g e).1
 have hz':wB.heap.size≤V'.heap.size:=Yx h.size hg.size;have hbx:=(h.box.grown hg (fun e=>by have:=hA _ e;omega)).set_ 4 (.slice A3 (lT.length+1) c3);refine ⟨fun b hb hl=>?_,by simpa [World.setCell] using hz',?_,?_,((h.tw.swap.push (hr.le (Qay (fun _ hb=>⟨hb.1,hb.2.1,hb.2.2.2,hb.2.2.1⟩))) k1 k2 ho hg hat).set (by omega) _ _).swap⟩
 · have h1:=h.kept b hb hl
   have h2:=hg.block b (by have:=h.size;omega) (fun e=>by have:=hA b e.symm;omega);have h3:=(Qab V' (w.heap.size+1+1) 4 (.slice A3 (lT.length+1) c3)).block b (by have:=h.size;have:=hg.size;omega) (fun e=>hb (by cases e;rfl))
   exact h3.trans (h2.trans h1)
 · exact Zi (h.bel.grown hg h.bel.size (fun g e=>by have:=hA g e;omega)) (by omega)
 · rw [Yp]
   simpa using hbx
end
theorem infoI64s:(Tryz.prog.info? 30).map (fun i=>(i.zero,i.size,i.bytes))=some (some (.slice none 0 0),1,24):=by kernel_rfl
set_option maxHeartbeats 8000000 in
set_option maxRecDepth 20000 in
theorem Qwa (A B C:Option Addr)(n m k c d e:Nat)(N:Qai)(w:World)(h:Qbc w A B C n m k N)(hok:Qav N) :
 Calls prog 59 #[.agg #[.slice A n c,.slice B m d,.slice C k e]] w (OfPost w (.slice A n c) (.slice B m d) (.slice C k e) m N):=by
 have HH:=Zh h;have HOK:=Zh hok;have HLV:=Zh h.1.1;have HLA:=Zh h.2.1.1;have HLT:=Zh h.2.2.1;have hn4:n≤4096:=by rw [←h.1.1];exact hok.lv
 have hm:m≤16384:=by rw [←h.2.1.1];exact hok.la
 have hmk:=Qly n (by omega);clear h hok
 go_enter func59,ntmps59
 go_wp2_with fail
 (refine Qag ?_;intro w1 hw1)
 have hW1:OfW w w1 (.slice A n c) (.slice B m d) (.slice C k e):=by
  rw [hw1];refine ⟨Qaf,?_,?_,?_,?_⟩
  · repeat (first|(refine Blk.new' _ _ _ ?_ <;> simp <;> done)|apply Blk.alloc)
  · repeat (first|(refine Blk.new' _ _ _ ?_ <;> simp <;> done)|apply Blk.alloc)
  · repeat (first|(refine Blk.new' _ _ _ ?_ <;> simp <;> done)|apply Blk.alloc)
  · simp
 have hI1:Ik2 w1 (w.heap.size+5) (w.heap.size+1+1+1) (w.heap.size+1+1+1+1) n (Qif (·.1) (N.ar.take 0) n) (Qif (·.2.1) (N.ar.take 0) n):=by
  rw [List.take_zero,Qjl,Qjl];refine Ik2.start (by omega) (by omega) (by omega) ?_ ?_
  · rw [hw1];repeat (first|(refine Blk.new' _ _ _ ?_ <;> simp <;> done)|apply Blk.alloc)
  · rw [hw1];repeat (first|(refine Blk.new' _ _ _ ?_ <;> simp <;> done)|apply Blk.alloc)
 clear hw1 hmk
 go_loopw [6] (fun q W=>∃ j:Nat,j≤m∧q=.int .i64 j∧OfW w W (.slice A n c) (.slice B m d) (.slice C k e)∧Ik2 W (w.heap.size+5) (w.heap.size+1+1+1) (w.heap.size+1+1+1+1) n (Qif (·.1) (N.ar.take j) n) (Qif (·.2.1) (N.ar.take j) n)) (fun q _=>m-(intOf q).toNat)
 case atStart=>exact ⟨0,Nat.zero_le _,rfl,hW1,hI1⟩
 case round =>
  clear hW1 hI1;obtain ⟨j,hj,rfl,hW,hI⟩:=hrel;have x1:wr.cell? ⟨w.heap.size,1,none⟩=some (.slice B m d):=Zq hW.net;have xl:=hW.size
  by_cases hlt:j<m
  · obtain ⟨b,o,x,y,z,rfl,hx,cx,cy,cz⟩:=HH.out.2.1.at_ hlt
    have hok:=HOK.out.arcs _ (Zm hx);have f0:=hok.f0;have f1:=hok.f1;have g0:=hok.g0;have g1:=hok.g1;simp only at f0 f1 g0 g1;rw [HLV.out] at f1 g1;obtain ⟨u,rfl⟩:∃ u:Nat,x=u:=⟨x.toNat,by omega⟩;obtain ⟨v,rfl⟩:∃ v:Nat,y=v:=⟨y.toNat,by omega⟩;have hu:u<n:=by omega
    have hvn:v<n:=by omega
    have HN1:=Zh (Qhq (f:=(·.2.1)) (n:=n) (v:=v) hx rfl hvn);have HN2:=Zh (Qhq (f:=(·.1)) (n:=n) (v:=u) hx rfl hu);have HL1:=Zh (Qde (f:=(·.2.1)) (l:=N.ar.take j) hvn);have HL2:=Zh (Qde (f:=(·.1)) (l:=N.ar.take j) hu);have d1:=Qhw (·.2.1) N.ar j (v:Int);have d2:=Qhw (·.1) N.ar j (u:Int);have CXU:=Zh cx;have CXV:=Zh cy;have i1:(0:Int)≤(j:Int):=by omega
    have i2:(j:Int)<(m:Int):=by omega
    have i3:(0:Int)≤(u:Int):=by omega
    have i4:(u:Int)<(n:Int):=by omega
    have i5:(0:Int)≤(v:Int):=by omega
    have i6:(v:Int)<(n:Int):=by omega
    have HIV:=Zh hI;have HWV:=Zh hW;clear hx hok cx cy cz hW hI;generalize hl1:idx (·.2.1) (N.ar.take j) (v:Int)=la at *;generalize hl2:idx (·.1) (N.ar.take j) (u:Int)=lb at *;clear hl1 hl2;have HLX:=Zh HL2.out;have HLN:=Zh HN2.out;have HUU:=hu
    go_wp2_with fail
    obtain ⟨Ac,cc,lc,ec,cwc,ffc,hoc⟩:=HIV.out.1.row HUU;rw [HLX.out] at ec
    cases ec
    have hx1:wr.cell? ⟨w.heap.size,1,none⟩=some (.slice (some ⟨b,o,none⟩) m d):=Zq HWV.out.net;have hx2:=Zc HWV.out.bel (Zn _) CXU.out;have hbl:=Qae CXU.out;simp only at hbl;refine Qbf 20 (S:=fun V=>V.cell? ⟨w.heap.size,1,none⟩=some (.slice (some ⟨b,o,none⟩) m d)∧V.cell? ⟨b,o+j*3,none⟩=some (.int .i64 (u:Int))∧V.cell? ⟨w.heap.size+1+1+1,u,none⟩=some (.slice Ac lb.length cc)) (by kernel_rfl) ⟨hx1,hx2,cwc⟩ (fun _=>?_);refine tkF 0 31 (h:=⟨_,tv,?_⟩);simp only [pE,List.set];refine tkF 1 32 (h:=⟨_,tv,?_⟩);simp only [pE,List.set];refine tkK 2 33 (h:=⟨_,tv,?_⟩);simp only [pE,List.set];refine tkF 3 34 (h:=⟨_,tv,?_⟩);simp only [pE,List.set];refine tkF 4 35 (h:=⟨_,tv,?_⟩);simp only [pE,List.set];refine tkF 5 36 (h:=⟨_,tv,?_⟩);simp only [pE,List.set];refine tkK 6 37 (h:=⟨_,tv,?_⟩);simp only [pE,List.set];refine tkF 7 38 (h:=⟨_,tv,?_⟩);simp only [pE,List.set];refine tkF 8 39 (h:=⟨_,tv,?_⟩);simp only [pE,List.set];refine tkK 9 40 (h:=⟨_,tv,?_⟩);simp only [pE,List.set];refine tkF 10 41 (h:=⟨_,tv,?_⟩);simp only [pE,List.set];refine tkF 11 42 (h:=⟨_,tv,?_⟩);simp only [pE,List.set];refine tkF 12 43 (h:=⟨_,tv,?_⟩);simp only [pE,List.set];refine tkK 13 44 (h:=⟨_,tv,?_⟩);simp only [pE,List.set];refine tkF 14 45 (h:=⟨_,tv,?_⟩);simp only [pE,List.set];refine tkK 15 46 (h:=⟨_,tv,?_⟩);simp only [pE,List.set];refine tkF 16 47 (h:=⟨_,tv,?_⟩);simp only [pE,List.set];obtain ⟨w9,hw9⟩:∃ w9,w9=(wr.alloc (.cells #[.int .i64 (j:Int)] 3)).drew:=⟨_,rfl⟩;have hb9:Below wr.heap.size wr w9:=by rw [hw9];exact ((Zr _ _).alloc (Zn _) _).drew
    have hI9:=HIV.out.below hb9;have hW9:=HWV.out.below hb9;have hrd9:Rds w9 1 (some ⟨wr.heap.size,0,none⟩) 1 (Qad [(j:Int)]):=by rw [hw9];exact ((Blk.new wr 3 (Qcv [(j:Int)])).drew).rds rfl
    have hro9:=hoc.below hb9;have hrc9:=Zc hb9 (Zn _) cwc;have hx19:=Zc hb9 (Zn _) hx1;have hx29:=Zc hb9 (Zn _) hx2;have hsz9:w.heap.size+5≤w9.heap.size:=hW9.size;have hAz:∀ g,Qaa Ac=some g→w.heap.size+5≤g:=fun g e=>(hoc.lt g e).1
    refine Qbb (i:=17) (by kernel_rfl) (by rfl) rfl (fun K hK=>?_);go_simp;rw [←hw9];refine hK.out _ _ ⟨hx19,hx29,hrc9⟩ (fun _=>?_);clear hK K hw9;refine Qbb (i:=18) (by kernel_rfl) (by rfl) rfl (fun K hK=>?_);with_reducible refine Qar (some 49) rfl rfl (.tmp 46) (.tmp 48) 93 rfl 3 _ 1 8 Qbk underlying93 rfl (by omega) rfl rfl hro9 hrd9 (Qam _) (by omega) (by omega) hsz9 ?_
    intro RA' rc' w10 ho10 hg10 hat10;have hW10:=hW9.grown hg10 (fun g e=>by have:=hAz g e;omega)
    have hcg:w10.cell? ⟨w.heap.size+1+1+1,u,none⟩=some (.slice Ac lb.length cc):=by
     rw [World.cell?_of_block (hg10.block (w.heap.size+1+1+1) (by omega) (fun e=>by have:=hAz _ e.symm;omega))];exact hrc9
    have hcy:w10.cell? ⟨b,o+j*3,none⟩=some (.int .i64 (u:Int)):=Zc hW10.bel (Zn _) CXU.out;obtain ⟨xf,hfv,hff⟩:=hI9.1.cellG HUU hg10 (hro9.ne (by omega));refine hK.out _ _ ⟨Zq hW10.net,hcy,hcg⟩ (fun _=>?_);clear hK K;simp only [Act.put,Yi,Yj,Yk];have hIF:=hI9.push HLX.out hrc9 ho10 hg10 hat10;have hWF:=hW10.grown (Qab w10 (w.heap.size+1+1+1) u (.slice RA' (lb.length+1) rc')) (fun g e=>by cases e;omega)
    refine tkF 19 50 (h:=⟨_,tv,?_⟩);simp only [pE,List.set];refine Qbs (k:=20) (by kernel_rfl) rfl (fun K hK=>?_);go_simp;refine hK.out _ _ ?_;clear hK K;refine Qbm (by kernel_rfl) ?_ _;obtain ⟨V2,hVO⟩:∃ V2,V2=w10.setCell ⟨w.heap.size+1+1+1,u,none⟩ (.slice RA' (lb.length+1) rc'):=⟨_,rfl⟩;rw [←hVO] at hIF hWF ⊢;rw [HLN.out] at hIF;clear hVO hcg hcy hfv hff ho10 hg10 hat10 hI9 hW9 hW10 hrd9 hro9 hrc9 hx19 hx29 hsz9 hb9 hAz cwc ffc hoc hx1 hx2 HIV HWV HLX HLN HUU;have HIV:=Zh hIF.swap;have HWV:=Zh hWF;clear hIF hWF;have HLX:=Zh HL1.out;have HLN:=Zh HN1.out;have HUU:=hvn
    go_wp2_with fail
    obtain ⟨Ac,cc,lc,ec,cwc,ffc,hoc⟩:=HIV.out.1.row HUU;rw [HLX.out] at ec
    cases ec
    have hx1:V2.cell? ⟨w.heap.size,1,none⟩=some (.slice (some ⟨b,o,none⟩) m d):=Zq HWV.out.net;have hx2:=Zc HWV.out.bel (Zn _) CXV.out;have hbl:=Qae CXV.out;simp only at hbl;refine Qbf 20 (S:=fun V=>V.cell? ⟨w.heap.size,1,none⟩=some (.slice (some ⟨b,o,none⟩) m d)∧V.cell? ⟨b,o+j*3+1,none⟩=some (.int .i64 (v:Int))∧V.cell? ⟨w.heap.size+1+1+1+1,v,none⟩=some (.slice Ac la.length cc)) (by kernel_rfl) ⟨hx1,hx2,cwc⟩ (fun _=>?_);refine tkF 0 51 (h:=⟨_,tv,?_⟩);simp only [pE,List.set];refine tkF 1 52 (h:=⟨_,tv,?_⟩);simp only [pE,List.set];refine tkK 2 53 (h:=⟨_,tv,?_⟩);simp only [pE,List.set];refine tkF 3 54 (h:=⟨_,tv,?_⟩);simp only [pE,List.set];refine tkF 4 55 (h:=⟨_,tv,?_⟩);simp only [pE,List.set];refine tkF 5 56 (h:=⟨_,tv,?_⟩);simp only [pE,List.set];refine tkK 6 57 (h:=⟨_,tv,?_⟩);simp only [pE,List.set];refine tkF 7 58 (h:=⟨_,tv,?_⟩);simp only [pE,List.set];refine tkF 8 59 (h:=⟨_,tv,?_⟩);simp only [pE,List.set];refine tkK 9 60 (h:=⟨_,tv,?_⟩);simp only [pE,List.set];refine tkF 10 61 (h:=⟨_,tv,?_⟩);simp only [pE,List.set];refine tkF 11 62 (h:=⟨_,tv,?_⟩);simp only [pE,List.set];refine tkF 12 63 (h:=⟨_,tv,?_⟩);simp only [pE,List.set];refine tkK 13 64 (h:=⟨_,tv,?_⟩);simp only [pE,List.set];refine tkF 14 65 (h:=⟨_,tv,?_⟩);simp only [pE,List.set];refine tkK 15 66 (h:=⟨_,tv,?_⟩);simp only [pE,List.set];refine tkF 16 67 (h:=⟨_,tv,?_⟩);simp only [pE,List.set];obtain ⟨w9,hw9⟩:∃ w9,w9=(V2.alloc (.cells #[.int .i64 (j:Int)] 3)).drew:=⟨_,rfl⟩;have hb9:Below V2.heap.size V2 w9:=by rw [hw9];exact ((Zr _ _).alloc (Zn _) _).drew
    have hI9:=HIV.out.below hb9;have hW9:=HWV.out.below hb9;have hrd9:Rds w9 1 (some ⟨V2.heap.size,0,none⟩) 1 (Qad [(j:Int)]):=by rw [hw9];exact ((Blk.new V2 3 (Qcv [(j:Int)])).drew).rds rfl
    have hro9:=hoc.below hb9;have hrc9:=Zc hb9 (Zn _) cwc;have hx19:=Zc hb9 (Zn _) hx1;have hx29:=Zc hb9 (Zn _) hx2;have hsz9:w.heap.size+5≤w9.heap.size:=hW9.size;have hAz:∀ g,Qaa Ac=some g→w.heap.size+5≤g:=fun g e=>(hoc.lt g e).1
    refine Qbb (i:=17) (by kernel_rfl) (by rfl) rfl (fun K hK=>?_);go_simp;rw [←hw9];refine hK.out _ _ ⟨hx19,hx29,hrc9⟩ (fun _=>?_);clear hK K hw9;refine Qbb (i:=18) (by kernel_rfl) (by rfl) rfl (fun K hK=>?_);with_reducible refine Qar (some 69) rfl rfl (.tmp 66) (.tmp 68) 93 rfl 3 _ 1 8 Qbk underlying93 rfl (by omega) rfl rfl hro9 hrd9 (Qam _) (by omega) (by omega) hsz9 ?_
    intro RA' rc' w10 ho10 hg10 hat10;have hW10:=hW9.grown hg10 (fun g e=>by have:=hAz g e;omega)
    have hcg:w10.cell? ⟨w.heap.size+1+1+1+1,v,none⟩=some (.slice Ac la.length cc):=by
     rw [World.cell?_of_block (hg10.block (w.heap.size+1+1+1+1) (by omega) (fun e=>by have:=hAz _ e.symm;omega))];exact hrc9
    have hcy:w10.cell? ⟨b,o+j*3+1,none⟩=some (.int .i64 (v:Int)):=Zc hW10.bel (Zn _) CXV.out;obtain ⟨xf,hfv,hff⟩:=hI9.1.cellG HUU hg10 (hro9.ne (by omega));refine hK.out _ _ ⟨Zq hW10.net,hcy,hcg⟩ (fun _=>?_);clear hK K;simp only [Act.put,Yi,Yj,Yk];have hIF:=hI9.push HLX.out hrc9 ho10 hg10 hat10;have hWF:=hW10.grown (Qab w10 (w.heap.size+1+1+1+1) v (.slice RA' (la.length+1) rc')) (fun g e=>by cases e;omega)
    refine tkF 19 70 (h:=⟨_,tv,?_⟩);simp only [pE,List.set];refine Qbs (k:=20) (by kernel_rfl) rfl (fun K hK=>?_);go_simp;refine hK.out _ _ ?_;clear hK K;refine Qbm (by kernel_rfl) ?_ _;obtain ⟨V3,hVO⟩:∃ V3,V3=w10.setCell ⟨w.heap.size+1+1+1+1,v,none⟩ (.slice RA' (la.length+1) rc'):=⟨_,rfl⟩;rw [←hVO] at hIF hWF ⊢;rw [HLN.out] at hIF;clear hVO hcg hcy hfv hff ho10 hg10 hat10 hI9 hW9 hW10 hrd9 hro9 hrc9 hx19 hx29 hsz9 hb9 hAz cwc ffc hoc hx1 hx2 HIV HWV HLX HLN HUU;have HIV:=Zh hIF.swap;have HWV:=Zh hWF;clear hIF hWF
    go_wp2_with fail
    go_roundw
    case rel=>exact ⟨j+1,by omega,by go_num,HWV.out,HIV.out⟩
    case measure=>simp [intOf];omega
  · obtain rfl:m=j:=by omega
    have i1:¬((m:Int)<(m:Int)):=by omega
    obtain ⟨wB,hwB⟩:∃ wB,wB=wr:=⟨_,rfl⟩;subst hwB;rw [Ye (by rw [HLA.out];exact Zn _)] at hI;obtain ⟨G0,hG0⟩:∃ G0:Nat→Prop,G0=fun b=>w.heap.size+3≤b∧b<wB.heap.size:=⟨_,rfl⟩
    have HOUT:=Zh (show RdT (msk wB G0) (some ⟨w.heap.size+1+1+1,0,none⟩) n (Qif (·.1) N.ar n) from hI.1.rdM (by rw [hG0];exact ⟨by omega,hI.1.lt⟩) (fun b h1 h2=>by rw [hG0];exact ⟨by omega,h2⟩))
    have HIN:=Zh (show RdT (msk wB G0) (some ⟨w.heap.size+1+1+1+1,0,none⟩) n (Qif (·.2.1) N.ar n) from hI.2.1.rdM (by rw [hG0];exact ⟨by omega,hI.2.1.lt⟩) (fun b h1 h2=>by rw [hG0];exact ⟨by omega,h2⟩))
    have HLG:=Zh (show ∀ V,Qax (fun b=>b≠w.heap.size+1+1) wB V→Le (msk wB G0) V from fun V hV=>(hV.mono (fun b hb=>by rw [hG0] at hb;have:=hb.1;omega)).msk.trans (Qbh _ _))
    have HWB:=Zh hW;have HR0:=Zh (show OfR w wB wB (.slice A n c) (.slice B m d) (.slice C k e) none 0 [] [] none 0 [] [] from ⟨Qax.refl _ _,Zn _,hW.bel,hW.box,Tw.nil _ _ _ _⟩)
    clear hW hI hG0
    go_wp2_with fail
    go_loopw [7] (fun q V=>∃ (a:Nat) (AN:Option Addr) (cN:Nat) (xN:List Value) (AT:Option Addr) (cT:Nat) (xT:List Value),a≤m∧q=.int .i64 a∧OfR w wB V (.slice A n c) (.slice B m d) (.slice C k e) AN cN xN ((List.range a).map (Qee N)) AT cT xT ((List.range a).map (Qqo N))) (fun q _=>m-(intOf q).toNat)
    case atStart=>exact ⟨0,none,0,[],none,0,[],Nat.zero_le _,rfl,HR0.out⟩
    case round =>
     clear HR0 x1 xl;obtain ⟨a,AN,cN,xN,AT,cT,xT,ha,rfl,hR⟩:=hrel;have HR:=Zh hR;have hz5:=HWB.out.size;have hzB:=hR.size;have hnet:Blk wr w.heap.size 26 #[.slice A n c,.slice B m d,.slice C k e]:=(hR.kept w.heap.size (show w.heap.size≠w.heap.size+1+1 by omega) HWB.out.net.lt).trans HWB.out.net
     have x1:wr.cell? ⟨w.heap.size,1,none⟩=some (.slice B m d):=Zq hnet;have xl:=hnet.lt
     by_cases haM:a<m
     rotate_left
     · obtain rfl:m=a:=by omega
       have hres:Blk wr (w.heap.size+1) 131 #[.slice none 0 0,.slice none 0 0,.slice none 0 0,.slice none 0 0,.slice none 0 0]:=(hR.kept (w.heap.size+1) (show w.heap.size+1≠w.heap.size+1+1 by omega) HWB.out.res.lt).trans HWB.out.res
       have hl1:((List.range m).map (Qee N)).length=m:=by simp
       have hl2:((List.range m).map (Qqo N)).length=m:=by simp
       have hbx:=hR.box;rw [hl1,hl2] at hbx;have y0:wr.cell? ⟨w.heap.size+1+1,0,none⟩=some (.slice A n c):=Zq hbx;have y1:wr.cell? ⟨w.heap.size+1+1,1,none⟩=some (.slice B m d):=Zq hbx;have y2:wr.cell? ⟨w.heap.size+1+1,2,none⟩=some (.slice C k e):=Zq hbx;have y3:wr.cell? ⟨w.heap.size+1+1,3,none⟩=some (.slice AN m cN):=Zq hbx;have y4:wr.cell? ⟨w.heap.size+1+1,4,none⟩=some (.slice AT m cT):=Zq hbx;have z0:wr.cell? ⟨w.heap.size+1,0,none⟩=some (.slice none 0 0):=Zq hres;have z1:wr.cell? ⟨w.heap.size+1,1,none⟩=some (.slice none 0 0):=Zq hres;have z2:wr.cell? ⟨w.heap.size+1,2,none⟩=some (.slice none 0 0):=Zq hres;have z3:wr.cell? ⟨w.heap.size+1,3,none⟩=some (.slice none 0 0):=Zq hres;have z4:wr.cell? ⟨w.heap.size+1,4,none⟩=some (.slice none 0 0):=Zq hres;have f0:=hres.frozen 0;have f1:=hres.frozen 1;have f2:=hres.frozen 2;have f3:=hres.frozen 3;have f4:=hres.frozen 4;clear hR hl1 hl2 hbx
       go_wp2_with fail
       obtain ⟨w9,hw9⟩:∃ w9,w9=((((wr.setCell ⟨w.heap.size+1,0,none⟩ (.slice A n c)).setCell ⟨w.heap.size+1,1,none⟩ (.slice B m d)).setCell ⟨w.heap.size+1,2,none⟩ (.slice C k e)).setCell ⟨w.heap.size+1,3,none⟩ (.slice AN m cN)).setCell ⟨w.heap.size+1,4,none⟩ (.slice AT m cT):=⟨_,rfl⟩;rw [←hw9]
       have hB9:Blk w9 (w.heap.size+1) 131 #[.slice A n c,.slice B m d,.slice C k e,.slice AN m cN,.slice AT m cT]:=by
        have:=((((hres.set_ 0 (.slice A n c)).set_ 1 (.slice B m d)).set_ 2 (.slice C k e)).set_ 3 (.slice AN m cN)).set_ 4 (.slice AT m cT);rw [←hw9] at this
        simpa using this
       have hb9:Below w.heap.size w w9:=by
        rw [hw9];exact Zi (Zi (Zi (Zi (Zi HR.out.bel (by omega)) (by omega)) (by omega)) (by omega)) (by omega)
       have hk9:Qax (fun b=>wB.heap.size≤b) wr w9:=by rw [hw9];exact Qyl (fun (e:wB.heap.size≤w.heap.size+1)=>by omega) _ _ _ _ _
       obtain ⟨c0,c1,c2,c3,c4⟩:w9.cell? ⟨w.heap.size+1,0,none⟩=some (.slice A n c)∧w9.cell? ⟨w.heap.size+1,1,none⟩=some (.slice B m d)∧w9.cell? ⟨w.heap.size+1,2,none⟩=some (.slice C k e)∧w9.cell? ⟨w.heap.size+1,3,none⟩=some (.slice AN m cN)∧w9.cell? ⟨w.heap.size+1,4,none⟩=some (.slice AT m cT):=by
        refine ⟨?_,?_,?_,?_,?_⟩ <;> (rw [hB9.cell];rfl)
       refine bodyPost_ret (v:=.agg #[.slice A n c,.slice B m d,.slice C k e,.slice AN m cN,.slice AT m cT]) (by simp [results,results59,go_sem,c0,c1,c2,c3,c4]) rfl ?_;have r1:=HR.out.tw.rd1;have r2:=HR.out.tw.swap.rd1;rw [List.length_map,List.length_range] at r1 r2;refine ⟨AN,cN,AT,cT,rfl,?_,?_,hb9⟩
       · have:=r1.le (hk9.msk.trans (Qbh _ _))
         unfold Qkd;rw [HLA.out];exact this
       · have:=r2.le (hk9.msk.trans (Qbh _ _))
         unfold Qkl;rw [HLA.out];exact this
     obtain ⟨b,o,x,y,z,rfl,hx,cx,cy,cz⟩:=HH.out.2.1.at_ haM;obtain ⟨lN,hlN⟩:∃ lN,lN=(List.range a).map (Qee N):=⟨_,rfl⟩;obtain ⟨lT,hlT⟩:∃ lT,lT=(List.range a).map (Qqo N):=⟨_,rfl⟩;rw [←hlN,←hlT] at hR;have HR:=Zh hR;have hlN1:lN.length≤16384:=by rw [hlN,List.length_map,List.length_range];omega
     have hlT1:lT.length≤16384:=by rw [hlT,List.length_map,List.length_range];omega
     have HLNE:=Zh hlN;have HLTE:=Zh hlT;clear hlN hlT;have hok:=HOK.out.arcs _ (Zm hx);have g0:=hok.g0;have g1:=hok.g1;simp only at g0 g1;rw [HLV.out] at g1;obtain ⟨v,rfl⟩:∃ v:Nat,y=v:=⟨y.toNat,by omega⟩;have hvn:v<n:=by omega
     obtain ⟨b2,o2,v1,v2,v3,rfl,hv,vx,vy,vz⟩:=HH.out.1.at_ (i:=v) hvn;have hvo:=HOK.out.verts _ (Zm hv);obtain ⟨t,rfl⟩:∃ t:Nat,v3=(t:Int):=⟨v3.toNat,by have:=hvo.t0;simp only at this;omega⟩;have htk:t<k:=by have h1:=hvo.t1;have:=HLT.out;simp only at h1;omega
     obtain ⟨b3,o3,tb,rfl,htb,t0,t1,AQ,nT,cQ,t2,hrd,hnT,hcT⟩:=HH.out.2.2.at_ htk;have hto:=HOK.out.tabs tb (Zm htb);have hmt:=HOK.out.meet v _ tb hv (by simpa using htb);obtain ⟨i,hi⟩:∃ i:Nat,i=(idx (·.2.1) (N.ar.take a) (v:Int)).length:=⟨_,rfl⟩;have hip:(i:Int)<tb.ins:=by rw [←hmt.1,hi];exact_mod_cast Qjp (f:=(·.2.1)) hx rfl
     have hpi:plI (idx (·.2.1) N.ar (v:Int)) (a:Int)=(i:Int):=by rw [hi];exact plI_idx (f:=(·.2.1)) hx
     have hle:=HLG.out wr hR.kept;obtain ⟨_,_,Ai,ni,ci,li,eI,hli,ki,ri,_,_⟩:=HIN.out.at_ hvn
     cases eI
     rw [Qde hvn] at hli
     cases hli
     obtain ⟨_,_,Ao,no,co,lo,eO,hlo,ko,ro,_,_⟩:=HOUT.out.at_ hvn
     cases eO
     rw [Qde hvn] at hlo
     cases hlo
     rw [Yz] at ki ko;have ki':=hle _ _ ki;have ko':=hle _ _ ko;have hol:(idx (·.1) N.ar (v:Int)).length=no:=ro.1;have hno:no≤16384:=by have h1:=Qhw (·.1) N.ar N.ar.length (v:Int);rw [List.take_length] at h1;have:=HLA.out;omega
     have hni:ni≤1000000000:=by have h1:=Qhw (·.2.1) N.ar N.ar.length (v:Int);rw [List.take_length] at h1;have:=ri.1;have:=HLA.out;omega
     have HPL:=Zh (Qxo Ai ni ci _ (a:Int) wr (ri.le hle) hni);have HPI:=Zh hpi;have HRO:=Zh (ro.le hle);have HOL:=Zh hol;have HX:=Zh hx
     have HTN:=Zh (fun (b' q:Nat) (hb':(idx (·.1) N.ar (v:Int))[q]?=some (b':Int))=>show ∀ z,tb.costs[i*tb.outs.toNat+q]?=some z→Qal N a b'=z from fun z hz=>by
      obtain ⟨⟨y1,y2,y3⟩,hy,e,hq⟩:=Qwh hb';simp only at e;subst e;exact turnN_eq hx hy hv htb (by rw [←hi,hq];exact hz))
     have HQO:=Zh (fun (q b':Nat) (hb':(idx (·.1) N.ar (v:Int))[q]?=some (b':Int))=>show (q:Int)<tb.outs from by
      obtain ⟨y,hy,e,hq⟩:=Qwh hb';rw [←hmt.2,←hq]
      exact_mod_cast Qjp (f:=(·.1)) hy e)
     have HTA:=Zh (fun (q:Nat) V (hV:Below w.heap.size w V) (hq:(q:Int)<tb.outs)=>Qqb AQ nT cQ tb i q V (hrd.below hV) hto hip hq);have cy':=Zc hR.bel (Zn _) cy
     have HSXX:=Zh (show ∀ V,Below wr.heap.size wr V→V.cell? ⟨w.heap.size,0,none⟩=some (.slice (some ⟨b2,o2,none⟩) n c)∧V.cell? ⟨w.heap.size,2,none⟩=some (.slice (some ⟨b3,o3,none⟩) k e)∧V.cell? ⟨w.heap.size+1+1+1,v,none⟩=some (.slice Ao no co)∧V.cell? ⟨b2,o2+v*3+2,none⟩=some (.int .i64 t)∧V.cell? ⟨b3,o3+t*3,none⟩=some (.int .i64 tb.ins)∧V.cell? ⟨b3,o3+t*3+1,none⟩=some (.int .i64 tb.outs)∧V.cell? ⟨b3,o3+t*3+2,none⟩=some (.slice AQ nT cQ) from
      fun V hV=>⟨by rw [(hnet.below hV hnet.lt).cell];rfl,by rw [(hnet.below hV hnet.lt).cell];rfl,Zc hV (Zn _) ko',Zc (Zb hR.bel hV) (Zn _) vz,Zc (Zb hR.bel hV) (Zn _) t0,Zc (Zb hR.bel hV) (Zn _) t1,Zc (Zb hR.bel hV) (Zn _) t2⟩)
     have k1:(a:Int)<(m:Int):=by omega
     have k2:(0:Int)≤(a:Int):=by omega
     have k3:(0:Int)≤(v:Int):=by omega
     have k4:(v:Int)<(n:Int):=by omega
     have k5:(0:Int)≤(t:Int):=by omega
     have k6:(t:Int)<(k:Int):=by omega
     clear hx cx cy cz hok g0 g1 hv vx vy vz hvo htb t0 t1 t2 hrd hnT hcT hto hmt hi hip hpi ki ko ri ro hol hni hnet hle hR
     go_wp2_with fail
     with_reducible refine HPL.out.mono ?_
     rintro r w' ⟨rfl,rfl⟩;rw [HPI.out]
     go_wp2_with fail
     clear HPL ki' cy' x1;obtain ⟨wo,hwo⟩:∃ wo,wo=wr:=⟨_,rfl⟩;subst hwo
     go_loopw [10,11,12] (fun zn zt q V=>∃ (kk:Nat) (An:Option Addr) (cn:Nat) (At:Option Addr) (ct:Nat),kk≤no∧q=.int .i64 kk∧zn=.slice An (nxK N a v kk).length cn∧zt=.slice At (nxK N a v kk).length ct∧Own V wo.heap.size 3 1 An (nxK N a v kk).length cn (Qad (nxK N a v kk))∧Own V wo.heap.size 2 1 At (nxK N a v kk).length ct (Qad (trK N a v kk))∧(∀ g,Qaa An=some g→Qaa At≠some g)∧Below wo.heap.size wo V) (fun _ _ q _=>no-(intOf q).toNat)
     case atStart=>exact ⟨0,none,0,none,0,Nat.zero_le _,rfl,rfl,rfl,Own.nil _ _ _ _,Own.nil _ _ _ _,(fun g e=>by cases e),Zr _ _⟩
     case round =>
      obtain ⟨kk,An,cn,At,ct,hkk,rfl,rfl,rfl,hon,hot,hdj,hbl⟩:=hrel;have HDJ:=Zh hdj;have HBL:=Zh hbl;have hnl:=nxK_le N a v kk;obtain ⟨nx,hnx⟩:∃ nx,nx=nxK N a v kk:=⟨_,rfl⟩;obtain ⟨tr,htr⟩:∃ tr,tr=trK N a v kk:=⟨_,rfl⟩;have htl:tr.length=nx.length:=by rw [hnx,htr];exact trK_len N a v kk
      rw [←hnx] at hnl hon hot ⊢;rw [←htr] at hot;have HON:=Zh hon;have HOT:=Zh hot;have HNX:=Zh hnx;have HTR:=Zh htr;have HTL:=Zh htl;clear hnx htr htl;have q1:=(HSXX.out wr hbl).2.2.1;have hblz:=hbl.size;clear hon hot hdj hbl
      by_cases hlt2:kk<no
      rotate_left
      · obtain rfl:kk=no:=by omega
        have j2:¬((kk:Int)<(kk:Int)):=by omega
        have hall:=nxK_all HX.out rfl (k:=kk) (by rw [HOL.out];exact Zn _);rw [←HNX.out,←HTR.out] at hall;have HALL:=Zh hall;have HRB:=Zh (HR.out.below HBL.out);have y3:wr.cell? ⟨w.heap.size+1+1,3,none⟩=some (.slice AN lN.length cN):=Zq HRB.out.box;have yl:=HRB.out.box.lt;obtain ⟨W2,hW2⟩:∃ W2,W2=wr.alloc (.cells #[.slice An nx.length cn] 93):=⟨_,rfl⟩;have hbW:Below wr.heap.size wr W2:=by rw [hW2];exact Qaf
        have HR2:=Zh (HRB.out.below hbW);have HON2:=Zh (HON.out.below hbW);have HOT2:=Zh (HOT.out.below hbW);have hown:=HR2.out.tw.o1;have hrd:Rds W2 1 (some ⟨wr.heap.size,0,none⟩) 1 [.slice An nx.length cn]:=by rw [hW2];exact (Blk.new wr 93 #[.slice An nx.length cn]).rds rfl
        have hsz:wB.heap.size≤W2.heap.size:=HR2.out.size;have hAN:∀ g,Qaa AN=some g→g<wo.heap.size:=fun g e=>(HR.out.tw.o1.lt g e).2
        have hAT:∀ g,Qaa AT=some g→g<wo.heap.size:=fun g e=>(HR.out.tw.o2.lt g e).2
        have HAN:=Zh hAN;have HAT:=Zh hAT;have hRD:RdI (msk W2 (GG wB.heap.size W2 AN AT)) An nx.length nx:=(HON2.out.rds.rdI).msk (fun b hb=>⟨by have:=(HON2.out.lt b hb).1;have:=HR.out.size;omega,(HON2.out.lt b hb).2,fun e=>by have:=(HON2.out.lt b hb).1;have:=hAN b e;omega,fun e=>by have:=(HON2.out.lt b hb).1;have:=hAT b e;omega⟩);have HRD:=Zh hRD;have HW2:=Zh hW2;clear hW2 hRD hall hAN hAT
        go_wp2_with (at_builtin;rw [←HW2.out];with_reducible refine Qas rfl (.tmp 129) (.tmp 131) 27 rfl 93 _ 1 24 Qgv underlying27 rfl (by omega) rfl rfl hown hrd (Qbz _ _ _) (by omega) (by omega) hsz ?_)
        intro A3 c3 w8 ho8 hg8 hat8;have hB8:=HR2.out.box.grown hg8 (fun e=>by have:=(hown.lt _ e).1;omega);have v5:w8.cell? ⟨w.heap.size+1+1,3,none⟩=some (.slice AN lN.length cN):=Zq hB8;have v6:=hB8.frozen 3;have v7:=hB8.lt;obtain ⟨V3,hV3⟩:∃ V3,V3=w8.setCell ⟨w.heap.size+1+1,3,none⟩ (.slice A3 (lN.length+1) c3):=⟨_,rfl⟩;have HP:=Zh (HR2.out.pushN hz5 HRD.out HON2.out.cap HON2.out.capMax ho8 hg8 hat8);rw [←hV3] at HP
        have HOT3:=Zh (show Own V3 wo.heap.size 2 1 At nx.length ct (Qad tr) from by
         rw [hV3];refine (HOT2.out.far hg8 ?_).far (Qab _ _ _ _) (.inr (fun e=>by have:=(HOT2.out.lt _ e).1;omega))
         cases e:Qaa At with
         | none=>exact .inl rfl
         | some g=>exact .inr (fun e2=>by have:=HAN.out g e2.symm;have:=(HOT2.out.lt g e).1;omega))
        have HA3:=Zh (show ∀ g,Qaa A3=some g→Qaa At≠some g from fun g e e2=>by
         have h1:=HOT2.out.lt g e2
         rcases hat8 with e3|e3
         · have:=HAN.out g (e3▸e);omega
         · rw [e3] at e;have:=Yv e;omega)
        have HV3:=Zh hV3;have v4:w8.cell? ⟨w.heap.size+1+1,4,none⟩=some (.slice AT lT.length cT):=Zq hB8;have hz38:V3.heap.size=w8.heap.size:=by rw [hV3];simp [World.setCell]
        clear hown hrd hsz ho8 hg8 hat8 hB8 HW2 hV3;obtain ⟨W4,hW4⟩:∃ W4,W4=V3.alloc (.cells #[.slice At nx.length ct] 30):=⟨_,rfl⟩;have hbW4:Below V3.heap.size V3 W4:=by rw [hW4];exact Qaf
        have HR4:=Zh (HP.out.below hbW4);have HOT4:=Zh (HOT3.out.below hbW4);have hown:=HR4.out.tw.o2;have hrd:Rds W4 1 (some ⟨w8.heap.size,0,none⟩) 1 [.slice At nx.length ct]:=by rw [←hz38,hW4];exact (Blk.new V3 30 #[.slice At nx.length ct]).rds rfl
        have hsz:wB.heap.size≤W4.heap.size:=HR4.out.size
        have HRD2:=Zh (show RdI (msk W4 (GG wB.heap.size W4 A3 AT)) At tr.length tr from by
         rw [HTL.out];exact (HOT4.out.rds.rdI).msk (fun b hb=>⟨by have:=(HOT4.out.lt b hb).1;have:=HR.out.size;omega,(HOT4.out.lt b hb).2,fun e=>HA3.out b e hb,fun e=>by have:=(HOT4.out.lt b hb).1;have:=HAT.out b e;omega⟩))
        have HW4:=Zh hW4;clear hW4 hz38
        go_wp2_with (at_builtin;rw [←HV3.out,←HW4.out];with_reducible refine Qas rfl (.tmp 135) (.tmp 137) 129 rfl 30 _ 1 24 infoI64s underlying129 rfl (by omega) rfl rfl hown hrd (Qbz _ _ _) (by omega) (by omega) hsz ?_)
        intro A5 c5 w9 ho9 hg9 hat9;clear v5 v6 v7 v4 y3 yl;have hB9:=HR4.out.box.grown hg9 (fun e=>by have:=(hown.lt _ e).1;omega);have v5:w9.cell? ⟨w.heap.size+1+1,4,none⟩=some (.slice AT lT.length cT):=Zq hB9;have v6:=hB9.frozen 4;have v7:=hB9.lt;rw [←HTL.out] at ho9;have HP2:=Zh (HR4.out.pushT hz5 HRD2.out (by rw [HTL.out];exact HOT4.out.cap) HOT4.out.capMax ho9 hg9 hat9);have HFN:=Zh (show (List.range (a+1)).map (Qee N)=lN ++[nx] by rw [Qky.1,HALL.out.1,HLNE.out])
        have HFT:=Zh (show (List.range (a+1)).map (Qqo N)=lT ++[tr] by rw [Qky.2,HALL.out.2,HLTE.out])
        clear hown hrd hsz ho9 hg9 hat9 hB9 HW4
        go_wp2_with fail
        go_roundw
        case rel=>exact ⟨a+1,A3,c3,_,A5,c5,_,by omega,by go_num,by rw [HFN.out,HFT.out];exact HP2.out⟩
        case measure=>simp [intOf];omega
      · obtain ⟨bO,oO,zO,rfl,hzO,hcO⟩:=(HRO.out.below HBL.out).at_ hlt2
        obtain ⟨b',yO,rfl,_,_⟩:=Qiv.1 (Zm hzO);have HZO:=Zh hzO;have j1:(kk:Int)<(no:Int):=by omega
        have j2:(0:Int)≤(kk:Int):=by omega
        have HSX:=Zh (fun V (hV:Below wr.heap.size wr V)=>HSXX.out V (Zb HBL.out hV));have HCO:=Zh hcO;have HBW:=Zh (Zb HR.out.bel HBL.out);clear hzO hcO
        go_wp2_with fail
        refine wp_region_held_drew (S:=fun V=>Below wr.heap.size wr V) (by kernel_rfl) (Zr _ _).drew (fun _=>?_);refine tz 0 99 ?_;refine tz 1 100 ?_;refine tz 2 101 ?_;refine tz 3 102 ?_;refine tz 4 103 ?_;refine tz 5 104 ?_;refine tz 6 105 ?_;refine tz 7 106 ?_;refine tz 8 107 ?_;refine tz 9 108 ?_;refine tz 10 109 ?_;refine tz 11 110 ?_;refine Zk 12 (fun K hK=>?_);go_simp;with_reducible refine (HTA.out kk _ (HBW.out.trans ((Zr _ _).drew.mono HBW.out.size)) (HQO.out kk b' HZO.out)).mono ?_
        rintro r w2 ⟨zz,hzz,rfl,hb2⟩;have hb2':Below wr.heap.size wr w2:=(Zr _ _).drew.trans hb2;have HZ:=Zh (HTN.out b' kk HZO.out zz hzz);clear hzz hb2;go_simp;refine hK.out _ _ hb2' (fun _=>?_);clear hK K;refine tz 13 13 ?_;refine Zd ?_;have HB2:=Zh (Zb HBL.out hb2');have HON1:=Zh (HON.out.below hb2');have HOT1:=Zh (HOT.out.below hb2');have q2:=(HSX.out w2 hb2').2.2.1;have hc2:=Zc hb2' (Zn _) HCO.out;have hz2:=hb2'.size;clear hb2' q1 HSX
        by_cases hinf:zz=1152921504606846976
        · have e1:(zz != 1152921504606846976)=false:=by simp [hinf]
          have hout:=nxK_out HZO.out (by rw [HZ.out];exact hinf);rw [←HNX.out,←HTR.out] at hout;have HOUT2:=Zh hout;clear hout hinf
          go_wp2_with fail
          go_roundw
          case rel=>exact ⟨kk+1,An,cn,At,ct,by omega,by go_num,by rw [HOUT2.out.1],by rw [HOUT2.out.1],by rw [HOUT2.out.1];exact HON1.out,by rw [HOUT2.out.1,HOUT2.out.2];exact HOT1.out,HDJ.out,HB2.out⟩
          case measure=>simp [intOf];omega
        · have e1:(zz != 1152921504606846976)=true:=by simp [hinf]
          have hin:=nxK_in HZO.out (by rw [HZ.out];exact hinf);rw [←HNX.out,←HTR.out,HZ.out] at hin;have HIN2:=Zh hin;clear hin hinf;obtain ⟨W3,hW3⟩:∃ W3,W3=w2.alloc (.cells #[.int .i64 (b':Int)] 3):=⟨_,rfl⟩;have hbW:Below w2.heap.size w2 W3:=by rw [hW3];exact Qaf
          have HON2:=Zh (HON1.out.below hbW);have HOT2:=Zh (HOT1.out.below hbW);have HB3:=Zh (Zb HB2.out hbW);have hown:=HON2.out;have hrd:Rds W3 1 (some ⟨w2.heap.size,0,none⟩) 1 (Qad [(b':Int)]):=by rw [hW3];exact (Blk.new w2 3 #[.int .i64 (b':Int)]).rds rfl
          have hsz:wo.heap.size≤W3.heap.size:=HB3.out.size;have HW3:=Zh hW3;clear hW3 hbW
          go_wp2_with (at_builtin;rw [←HW3.out];with_reducible refine Qas rfl (.tmp 114) (.tmp 122) 93 rfl 3 _ 1 8 Qbk underlying93 rfl (by omega) rfl rfl hown hrd (Qam _) (by omega) (by omega) hsz ?_)
          intro A3 c3 w8 ho8 hg8 hat8;have HB8:=Zh (Zo HB3.out hg8 hown hsz)
          have HOT8:=Zh (show Own w8 wo.heap.size 2 1 At nx.length ct (Qad tr) from by
           refine HOT2.out.far hg8 ?_
           cases e:Qaa At with
           | none=>exact .inl rfl
           | some g=>exact .inr (fun e2=>HDJ.out g e2.symm e))
          have HO8:=Zh ho8
          have HD8:=Zh (show ∀ g,Qaa A3=some g→Qaa At≠some g∧g<w8.heap.size from fun g e=>⟨fun e2=>by
           rcases hat8 with e3|e3
           · exact HDJ.out g (e3▸e) e2
           · rw [e3] at e;have:=Yv e;have:=(HOT2.out.lt g e2).2;omega,(ho8.lt g e).2⟩)
          clear hown hrd hsz ho8 hg8 hat8 HW3;obtain ⟨W4,hW4⟩:∃ W4,W4=w8.alloc (.cells #[.int .i64 zz] 2):=⟨_,rfl⟩;have hbW4:Below w8.heap.size w8 W4:=by rw [hW4];exact Qaf
          have HOT9:=Zh (HOT8.out.below hbW4);have HO9:=Zh (HO8.out.below hbW4);have HB9:=Zh (Zb HB8.out hbW4);have hown:=HOT9.out;have hrd:Rds W4 1 (some ⟨w8.heap.size,0,none⟩) 1 (Qad [zz]):=by rw [hW4];exact (Blk.new w8 2 #[.int .i64 zz]).rds rfl
          have hsz:wo.heap.size≤W4.heap.size:=HB9.out.size;have hz84:=hbW4.size;have HW4:=Zh hW4;clear hW4 hbW4
          go_wp2_with (at_builtin;rw [←HW4.out];with_reducible refine Qas rfl (.tmp 124) (.tmp 126) 30 rfl 2 _ 1 8 Qir underlying30 rfl (by omega) rfl rfl hown hrd (Qam _) (by omega) (by omega) hsz ?_)
          intro A5 c5 w9 ho9 hg9 hat9;have HB10:=Zh (Zo HB9.out hg9 hown hsz)
          have HO10:=Zh (show Own w9 wo.heap.size 3 1 A3 (nx.length+1) c3 (Qad nx ++Qad [(b':Int)]) from by
           refine HO9.out.far hg9 ?_
           cases e:Qaa A3 with
           | none=>exact .inl rfl
           | some g=>exact .inr (fun e2=>(HD8.out g e).1 e2.symm))
          have HO11:=Zh ho9
          have HD10:=Zh (show ∀ g,Qaa A3=some g→Qaa A5≠some g from fun g e e2=>by
           rcases hat9 with e3|e3
           · exact (HD8.out g e).1 (e3▸e2)
           · rw [e3] at e2;have:=Yv e2;have:=(HD8.out g e).2;omega)
          have HL1:=Zh (show (nxK N a v (kk+1)).length=nx.length+1 by rw [HIN2.out.1,Yp];rfl)
          clear hown hrd hsz ho9 hg9 hat9 HW4
          go_wp2_with fail
          go_roundw
          case rel=>exact ⟨kk+1,A3,c3,A5,c5,by omega,by go_num,by rw [HL1.out],by rw [HL1.out],by rw [HL1.out,HIN2.out.1,Qbi];exact HO10.out,by rw [HL1.out,HIN2.out.2,Qbi];exact HO11.out,HD10.out,HB10.out⟩
          case measure=>simp [intOf];omega
end Go.Proofs.YthoagdpakddbdaaGreatDoor
