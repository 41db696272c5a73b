/- Parts of the proof: Gt, Hv, InA, Dj. -/
import Derived.Test.YteaoiabikjnkeaaGreatDoorC1
import Derived.Test.YteaoiabikjnkeaaGreatDoorC5
namespace Go.Proofs.YteaoiabikjnkeaaGreatDoor
open Go.RowKit Tryz
attribute [local go_sem ↓] Go.wp_at_zero Go.wp_at_succ
def Qba (N:Qaq)(a b:Nat):Int :=
 match N.ar[a]?,N.ar[b]? with
 | some x,some y=>if x.2.1=y.1 then (match N.vs[x.2.1.toNat]? with
  | some v=>(match N.ts[v.2.2.toNat]? with
   | some t=>t.costs.getD ((Qgo N.ar a x).1.toNat*t.outs.toNat+(Qgo N.ar b y).2.toNat) 1152921504606846976
   | none=>1152921504606846976)
  | none=>1152921504606846976) else 1152921504606846976
 | _,_=>1152921504606846976
theorem Qio {f:Tri→Int}{l:List Tri}{k:Nat}{a:Tri}{v:Int} (h:l[k]?=some a) (hv:f a=v):(idx f (l.take k) v).length<l.countP (fun x=>f x == v):=by
 rw [Qwh]
 have h1:(l.take (k+1)).countP (fun x=>f x == v)=(l.take k).countP (fun x=>f x == v)+1:=by
  rw [List.take_add_one,h,List.countP_append];simp [hv]
 have h2:=(List.take_sublist (k+1) l).countP_le (p:=fun x=>f x == v);omega
set_option maxHeartbeats 2000000 in
theorem Qlq (g a b:Nat)(N:Qaq)(x y:Tri)(w:World)(h:Qeo w g N) (hx:N.ar[a]?=some x) (hy:N.ar[b]?=some y) :
 Calls prog 71 #[.pointer (some ⟨g,0,none⟩),.int .i64 a,.int .i64 b] w fun e w'=>e=.returned (.int .i64 (Qba N a b))∧Below w.heap.size w w':=by
 have hla:=(Zs hx).1;have hlb:=(Zs hy).1;have HA:=Zh (fun V (hV:Below w.heap.size w V)=>Qhq g N a V (h.below hV) (by omega) (by omega));have HB:=Zh (fun V (hV:Below w.heap.size w V)=>Qhq g N b V (h.below hV) (by omega) (by omega));have hax:=(show Qaw N from by obtain ⟨A,B,C,I,O,P,n,m,k,c,d,e,ci,co,cp,h⟩:=h;exact h.ok).arcs x (Zm hx)
 obtain ⟨A,B,C,I,O,P,n,m,k,c,d,e,ci,co,cp,h⟩:=h;have hm:=h.ok.arLe h.net.2.1.1;have hlm:N.ar.length=m:=h.net.2.1.1;have hln:N.vs.length=n:=h.net.1.1;have hn4:=h.ok.lv;obtain ⟨bb,o,x1,x2,x3,rfl,hx',ax,ay,az⟩:=h.net.2.1.at_ (i:=a) (by omega);rw [hx] at hx'
 cases hx'
 obtain ⟨bb',o',y1,y2,y3,e',hy',bx,by_,bz⟩:=h.net.2.1.at_ (i:=b) (by omega)
 cases e'
 rw [hy] at hy'
 cases hy'
 have n1:=h.n1;have i1:(0:Int)≤(a:Int):=by omega
 have i2:(a:Int)<(m:Int):=by omega
 have i3:(0:Int)≤(b:Int):=by omega
 have i4:(b:Int)<(m:Int):=by omega
 have HSX:=Zh (show ∀ V,Below w.heap.size w V→V.cell? ⟨g,1,none⟩=some (.slice (some ⟨bb,o,none⟩) m d)∧V.cell? ⟨bb,o+a*3+1,none⟩=some (.int .i64 x2)∧V.cell? ⟨bb,o+b*3,none⟩=some (.int .i64 y1) from
  fun V hV=>⟨Zc hV (Zn _) n1,Zc hV (Zn _) ay,Zc hV (Zn _) bx⟩)
 have hay:=h.ok.arcs _ (Zm hy);obtain ⟨v,rfl⟩:∃ v:Nat,x2=(v:Int):=⟨x2.toNat,by have:=hax.g0;simp only at this;omega⟩;have hvn:v<n:=by have:=hax.g1;simp only at this;omega
 obtain ⟨b2,o2,v1,v2,v3,hA2,hv,vx,vy,vz⟩:=h.net.1.at_ (i:=v) hvn;subst hA2;have hvo:=h.ok.verts _ (Zm hv);obtain ⟨t,rfl⟩:∃ t:Nat,v3=(t:Int):=⟨v3.toNat,by have:=hvo.t0;simp only at this;omega⟩;have htl:N.ts.length=k:=h.net.2.2.1;have htk:t<k:=by have:=hvo.t1;simp only at this;omega
 obtain ⟨b3,o3,tb,hA3,htb,t0,t1,AT,nT,cT,t2,hrd,hnT,hcT⟩:=h.net.2.2.at_ htk;subst hA3;have hto:=h.ok.tabs tb (Zm htb);have hk:=h.ok.lt;obtain ⟨b4,o4,pa1,pa2,hA4,hpa,pa,pb⟩:=h.plc.at_ (i:=a) (by omega);subst hA4;rw [Qmf hx] at hpa;obtain ⟨b4',o4',pb1,pb2,e4,hpb,qa,qb⟩:=h.plc.at_ (i:=b) (by omega)
 cases e4
 rw [Qmf hy] at hpb;have n0:=h.n0;have n2:=h.n2;have n5:=h.n5;have hmt:=h.ok.meet v _ tb hv (by simpa using htb);obtain ⟨i,hi⟩:∃ i:Nat,i=(idx (·.2.1) (N.ar.take a) (v:Int)).length:=⟨_,rfl⟩;have hip:(i:Int)<tb.ins:=by rw [←hmt.1,hi];exact_mod_cast Qio (f:=(·.2.1)) hx rfl
 have hpa1:pa1=(i:Int):=by simp only [Qgo,Option.some.injEq,Prod.mk.injEq] at hpa;rw [hi];exact hpa.1.symm
 subst hpa1;obtain ⟨q,hq⟩:∃ q:Nat,q=(idx (·.1) (N.ar.take b) y1).length:=⟨_,rfl⟩;have hqp:y1=(v:Int)→(q:Int)<tb.outs:=fun e=>by rw [←hmt.2,hq,e];exact_mod_cast Qio (f:=(·.1)) hy e
 have hpb2:pb2=(q:Int):=by simp only [Qgo,Option.some.injEq,Prod.mk.injEq] at hpb;rw [hq];exact hpb.2.symm
 subst hpb2
 have HTN:=Zh (show ∀ z,y1=(v:Int)→tb.costs[i*tb.outs.toNat+q]?=some z→Qba N a b=z from fun z e hz=>by
  unfold Qba;rw [hx,hy];simp only [if_pos e.symm,Int.toNat_natCast,hv,htb,Qgo,←hi,←hq];rw [List.getD_eq_getElem?_getD,hz]
  rfl)
 have i5:(0:Int)≤(v:Int):=by omega
 have i6:(v:Int)<(n:Int):=by omega
 have i7:(0:Int)≤(t:Int):=by omega
 have i8:(t:Int)<(k:Int):=by omega
 have HTA:=Zh (fun V (hV:Below w.heap.size w V) (e:y1=(v:Int))=>Qxg AT nT cT tb i q V (hrd.below hV) hto hip (hqp e))
 have HY:=Zh (show ∀ V,Below w.heap.size w V→V.cell? ⟨g,0,none⟩=some (.slice (some ⟨b2,o2,none⟩) n c)∧V.cell? ⟨g,2,none⟩=some (.slice (some ⟨b3,o3,none⟩) k e)∧V.cell? ⟨g,5,none⟩=some (.slice (some ⟨b4,o4,none⟩) m cp) ∧
  V.cell? ⟨b2,o2+v*3,none⟩=some (.int .i64 v1)∧V.cell? ⟨b2,o2+v*3+1,none⟩=some (.int .i64 v2)∧V.cell? ⟨b2,o2+v*3+2,none⟩=some (.int .i64 t) ∧
  V.cell? ⟨b3,o3+t*3,none⟩=some (.int .i64 tb.ins)∧V.cell? ⟨b3,o3+t*3+1,none⟩=some (.int .i64 tb.outs)∧V.cell? ⟨b3,o3+t*3+2,none⟩=some (.slice AT nT cT) ∧
  V.cell? ⟨b4,o4+a*2,none⟩=some (.int .i64 i)∧V.cell? ⟨b4,o4+b*2+1,none⟩=some (.int .i64 q) from
  fun V hV=>⟨Zc hV (Zn _) n0,Zc hV (Zn _) n2,Zc hV (Zn _) n5,Zc hV (Zn _) vx,Zc hV (Zn _) vy,Zc hV (Zn _) vz,Zc hV (Zn _) t0,Zc hV (Zn _) t1,Zc hV (Zn _) t2,Zc hV (Zn _) pa,Zc hV (Zn _) qb⟩)
 clear n0 n2 n5 vx vy vz t0 t1 t2 pa pb qa qb hpa hpb hrd hip hqp hmt hv htb hi hq;clear h n1 ax ay az bx by_ bz
 go_enter func71,ntmps71
 go_wp2_with fail
 refine wp_region_held_drew (S:=fun V=>Below w.heap.size w V) (by kernel_rfl) (Zr _ _).drew (fun _=>?_);refine tz 0 8 ?_;refine tz 1 9 ?_;refine Zk 2 (fun K hK=>?_);go_simp;with_reducible refine (HA.out _ Qah).mono ?_
 rintro e w' ⟨rfl,rfl⟩;go_simp;refine hK.out _ _ Qah (fun _=>?_);clear hK K;refine tz 3 11 ?_;refine tz 4 12 ?_;refine tz 5 13 ?_;refine tz 6 14 ?_;refine Zk 7 (fun K hK=>?_);go_simp;with_reducible refine (HB.out _ Qah).mono ?_
 rintro e w' ⟨rfl,rfl⟩;go_simp;refine hK.out _ _ Qah (fun _=>?_);clear hK K;refine tz 8 16 ?_;refine tz 9 17 ?_;refine tz 10 18 ?_;refine tz 11 19 ?_;refine tz 12 20 ?_;refine tz 13 21 ?_;refine tz 14 22 ?_;refine tz 15 23 ?_;refine tz 16 24 ?_;refine tz 17 25 ?_;refine tz 18 26 ?_;refine tz 19 27 ?_;refine tz 20 28 ?_;refine tz 21 29 ?_;refine tz 22 30 ?_;refine tz 23 31 ?_;refine tz 24 32 ?_;refine tz 25 33 ?_;refine tz 26 34 ?_;refine tz 27 35 ?_;refine tz 28 36 ?_;refine tz 29 37 ?_;refine tz 30 38 ?_;refine Zd ?_
 by_cases hxy:(v:Int)=y1
 · have e1:((v:Int) != y1)=false:=by simp [hxy]
   subst hxy;have HSX1:=HSX;clear HSX;have HSX:=Zh (fun V hV=>And.intro (HSX1.out V hV) (HY.out V hV))
   go_wp2_with fail
   refine wp_region_held_drew (S:=fun V=>Below w.heap.size w V) (by kernel_rfl) (Zr _ _).drew.drew (fun _=>?_);refine tz 0 39 ?_;refine tz 1 40 ?_;refine tz 2 41 ?_;refine tz 3 42 ?_;refine tz 4 43 ?_;refine tz 5 44 ?_;refine tz 6 45 ?_;refine tz 7 46 ?_;refine tz 8 47 ?_;refine tz 9 48 ?_;refine tz 10 49 ?_;refine tz 11 50 ?_;refine tz 12 51 ?_;refine tz 13 52 ?_;refine tz 14 53 ?_;refine tz 15 54 ?_;refine Zk 16 (fun K hK=>?_);go_simp;refine hK.out _ _ Qah (fun _=>?_);clear hK K;refine Zk 17 (fun K hK=>?_);go_simp;refine hK.out _ _ Qah (fun _=>?_);clear hK K;refine Zd ?_;obtain ⟨W2,hW2⟩:∃ W2,W2=(w.alloc (.cells #[.int .i64 v1,.int .i64 v2,.int .i64 (t:Int)] 249)).drew.drew:=⟨_,rfl⟩;have hb2:Below w.heap.size w W2:=by rw [hW2];exact Qah
   have hbl:Blk W2 w.heap.size 249 #[.int .i64 v1,.int .i64 v2,.int .i64 (t:Int)]:=by rw [hW2];exact Qbf
   have c2:W2.cell? ⟨w.heap.size,2,none⟩=some (.int .i64 (t:Int)):=Zq hbl;have hlt:=hbl.lt;rw [←hW2];have HSX2:=HSX;clear HSX hbl hW2 HY HSX1;have HSX:=Zh (fun V (hV:Below w.heap.size w V∧V.cell? ⟨w.heap.size,2,none⟩=some (.int .i64 (t:Int)))=>And.intro hV.2 (HSX2.out V hV.1))
   go_wp2_with fail
   refine wp_region_held_drew (S:=fun V=>Below w.heap.size w V∧V.cell? ⟨w.heap.size,2,none⟩=some (.int .i64 (t:Int))) (by kernel_rfl) ⟨hb2.drew,c2⟩ (fun hS0=>?_);refine tz 0 55 ?_;refine tz 1 56 ?_;refine tz 2 57 ?_;refine tz 3 58 ?_;refine tz 4 59 ?_;refine tz 5 60 ?_;refine tz 6 61 ?_;refine tz 7 62 ?_;refine tz 8 63 ?_;refine tz 9 64 ?_;refine tz 10 65 ?_;refine tz 11 66 ?_;refine tz 12 67 ?_;refine tz 13 68 ?_;refine tz 14 69 ?_;refine tz 15 70 ?_;refine tz 16 71 ?_;refine tz 17 72 ?_;refine tz 18 73 ?_;refine tz 19 74 ?_;refine tz 20 75 ?_;refine tz 21 76 ?_;refine tz 22 77 ?_;refine tz 23 78 ?_;refine tz 24 79 ?_;refine Zk 25 (fun K hK=>?_);go_simp;with_reducible refine (HTA.out _ hS0.1 trivial).mono ?_
   rintro e w' ⟨z,hz,rfl,hb'⟩;have hb3:Below w.heap.size w w':=hS0.1.trans (hb'.mono hS0.1.size);have c3:w'.cell? ⟨w.heap.size,2,none⟩=some (.int .i64 (t:Int)):=Zc hb' (Zn _) c2;have HZ:=Zh (HTN.out z trivial hz);clear hz;go_simp;refine hK.out _ _ ⟨hb3,c3⟩ (fun _=>?_);clear hK K;refine tz 26 6 ?_;refine Zd ?_
   go_wp2_with fail
   go_ret
   rw [HZ.out];exact ⟨rfl,hb3⟩
 · have e1:((v:Int) != y1)=true:=by simp [hxy]
   go_wp2_with fail
   go_ret
   exact ⟨by rw [show Qba N a b=1152921504606846976 by unfold Qba;rw [hx,hy];simp [hxy]];rfl,Qah⟩
section
variable {G:Nat→Prop} {g gc gs n m c:Nat} {A:Option Addr} {R:List Nat} {C:List Int} {S:List Nat}
theorem Qbi.cut {W:World}(h:Qbi W G g A gc gs n m c R C S){L:Nat}(hL:L≤m):Qbi (W.setCell ⟨g,0,none⟩ (.slice A L c)) G g A gc gs n L c (R.take L) C S:=by
 have h1:Own W 0 3 1 A L c (Qag (nis (R.take L))):=h.row.front_ hL (by simp [Qag,nis,List.map_take]);refine ⟨?_,h1.far (Qaa _ _ _ _) (.inr fun e=>(h.dA g e).1 rfl),h.cs.far_ (fun e=>h.dg.1 e.symm) _,h.ss.far_ (fun e=>h.dg.2.1 e.symm) _,h.dA,h.dg,h.dG,fun b hb=>by simpa [World.setCell] using h.lt b hb,by rw [List.length_take,h.lr];omega,h.lc,h.ls,h.n0⟩;exact h.blk.set_ 0 _
set_option maxHeartbeats 1000000 in
theorem Qtk (w:World)(h:Qbi w G g A gc gs n 0 c R C S) :
 Calls prog 122 #[.pointer (some ⟨g,0,none⟩)] w fun e w'=>e=.returned (.tuple #[.int .i64 0,.int .i64 0,.bool false])∧w=w':=by
 have f0:=h.f0;clear h
 go_enter func122,ntmps122
 go_wp2_with fail
 refine bodyPost_ret (v:=.tuple #[.int .i64 0,.int .i64 0,.bool false]) (by simp [results,results122,go_sem]) rfl ?_;exact ⟨rfl,rfl⟩
set_option maxHeartbeats 2000000 in
theorem Qtj (w:World)(L:Nat) (h:Qbi w G g A gc gs n (L+1) c R C S) (hp:HpS n R C S) (ho:Ord (at_ R C) (L+1)) (k:Nat) (hk:R[0]?=some k) (x:Int) (hx:C[k]?=some x) :
 Calls prog 122 #[.pointer (some ⟨g,0,none⟩)] w fun e w'=>e=.returned (.tuple #[.int .i64 k,.int .i64 x,.bool true])∧(∃ (R' S':List Nat),Qbi w' G g A gc gs n L c R' C S'∧HpS n R' C S'∧Ord (at_ R' C) L∧∀ q,q∈R'↔q∈R∧q≠k)∧Aft G w w':=by
 obtain ⟨gr,hgr,hfr⟩:=h.rowBlk (by omega);subst hgr;have hlr:=h.lr;have hcap:=h.cap;have hn0:=h.n0;have hkn:k<n:=(hp.seat 0 k hk).1
 obtain ⟨b,y,la,lb,lc,ld⟩:=hp.key (i:=L) (by omega);have f0:=h.f0;have r0:=h.rowAt hk;have HSW:=Zh (fun V (hV:Qbi V G g (some ⟨gr,0,none⟩) gc gs n (L+1) c R C S)=>(show Calls prog 174 #[.pointer (some ⟨g,0,none⟩),.int .i64 0,.int .i64 L] V _ from Qjd V hV hk la hkn lb))
 have HPP:=Zh (hp.pop hlr hk);have HPO:=Zh (hp.popOrd ho hlr hk);have HH:=Zh h.drew;have i1:((L:Int)+1 == 0)=false:=by simp;omega
 have e1:IntKind.i64.wrap ((L:Int)+1-1)=(L:Int):=by rw [show (L:Int)+1-1=(L:Int) by omega];exact IntWalk.i64_in _ (by omega)
 have hle:=hp.le;clear h hp ho la lc ld
 go_enter func122,ntmps122
 go_wp2_with fail
 refine wp_region_held_drew (S:=fun V=>V.cell? ⟨g,0,none⟩=some (.slice (some ⟨gr,0,none⟩) (L+1) c)∧V.cell? ⟨gr,0,none⟩=some (.int .i64 k)) (by kernel_rfl) ⟨f0,r0⟩ (fun _=>?_);refine tz 0 13 ?_;refine tz 1 14 ?_;refine tz 2 15 ?_;refine tz 3 16 ?_;refine tz 4 17 ?_;refine tz 5 18 ?_;refine tz 6 19 ?_;refine tz 7 20 ?_;refine tz 8 21 ?_;refine tz 9 22 ?_;refine tz 10 23 ?_;refine tz 11 24 ?_;refine tz 12 5 ?_;refine tz 13 6 ?_;refine Zd ?_;clear f0 r0
 go_wp2_with fail
 with_reducible refine (HSW.out _ HH.out).mono ?_
 rintro e w1 ⟨rfl,hw1,ha1⟩;have ha:Aft G w w1:=⟨ha1.kept,ha1.size,fun B hB=>(Zr B w).drew.trans (ha1.bel B hB)⟩;have f0:=hw1.f0;have z0:w1.frozen? ⟨g,0,none⟩=false:=hw1.blk.frozen 0;have hw2:=hw1.cut (L:=L) (by omega);have f2:=hw2.f2;have s2:=hw2.seatAt (i:=k) (Qbm 0 (by rw [hw2.ls];exact hkn));have z2:w1.frozen? ⟨gs,k,none⟩=false:=hw1.ss.frozen k;have hw3:Qbi ((w1.setCell ⟨g,0,none⟩ (.slice (some ⟨gr,0,none⟩) L c)).setCell ⟨gs,k,none⟩ (.int .i64 0)) G g (some ⟨gr,0,none⟩) gc gs n L c _ C _:=hw2.setS (i:=k) (k:=0);have HDN:=Zh (Qxn _ hw3 HPP.out.1 HPO.out);have HA3:=Zh ((ha.set hw1.dG.1 (i:=0) (.slice (some ⟨gr,0,none⟩) L c)).set hw1.dG.2.2 (i:=k) (.int .i64 0));have i2:(0:Int)≤(k:Int):=by omega
 have i3:(k:Int)<(n:Int):=by omega
 have i4:(L:Int)≤(c:Int):=by omega
 clear hw1 hw2 hw3 ha ha1 HSW HH
 go_wp2_with fail
 with_reducible refine HDN.out.mono ?_
 rintro e w3 ⟨rfl,R',S',hw3,hp3,ho3,hk3,ha3⟩;have f1:=hw3.f1;have q1:=hw3.costAt hx;have HW4:=Zh hw3.drew;have HA4:=Zh (HA3.out.trans ha3).drew;have HP4:=Zh hp3;have HO4:=Zh ho3;have HK4:=Zh hk3;clear hw3 ha3 hp3 ho3 hk3 HDN HA3 f0 z0 f2 s2 z2
 go_wp2_with fail
 refine wp_region_held_drew (S:=fun V=>V.cell? ⟨g,1,none⟩=some (.slice (some ⟨gc,0,none⟩) n n)∧V.cell? ⟨gc,k,none⟩=some (.int .i64 x)) (by kernel_rfl) ⟨f1,q1⟩ (fun _=>?_);refine tz 0 45 ?_;refine tz 1 46 ?_;refine tz 2 47 ?_;refine tz 3 48 ?_;refine tz 4 49 ?_;refine tz 5 50 ?_;refine tz 6 51 ?_;refine tz 7 52 ?_;refine tz 8 2 ?_;refine tz 9 3 ?_;refine tz 10 4 ?_;refine Zd ?_
 go_wp2_with fail
 refine bodyPost_ret (v:=.tuple #[.int .i64 k,.int .i64 x,.bool true]) (by simp [results,results122,go_sem]) rfl ?_;exact ⟨rfl,⟨R',S',HW4.out,HP4.out,HO4.out,fun q=>(HK4.out q).trans (HPP.out.2.1 q)⟩,HA4.out⟩
theorem Qrl (w:World)(hp:Nat→Option Int)(h:Qcn w G g n hp) :
 Calls prog 122 #[.pointer (some ⟨g,0,none⟩)] w fun e w' =>
  (((∀ q,hp q=none)∧e=.returned (.tuple #[.int .i64 0,.int .i64 0,.bool false])∧Qcn w' G g n hp) ∨
   ∃ k x,k<n∧hp k=some x∧(∀ q z,hp q=some z→x≤z)∧e=.returned (.tuple #[.int .i64 (k:Nat),.int .i64 x,.bool true])∧Qcn w' G g n (fun q=>if q=k then none else hp q))∧Aft G w w':=by
 obtain ⟨A,gc,gs,m,c,R,C,S,hw,hs,ho,hin⟩:=h;have hlr:=hw.lr
 rcases m with _|L
 · refine (Qtk w hw).mono ?_
   rintro e w' ⟨rfl,rfl⟩;obtain rfl:=List.eq_nil_of_length_eq_zero hlr;exact ⟨.inl ⟨fun q=>by rw [hin q];simp [Qph],rfl,A,gc,gs,0,c,[],C,S,hw,hs,ho,hin⟩,Aft.refl _ _⟩
 · obtain ⟨k,x,hk,hkn,hx,_⟩:=hs.key (i:=0) (by omega)
   refine (Qtj w L hw hs ho k hk x hx).mono ?_;rintro e w' ⟨rfl,⟨R',S',k1,k2,k3,k4⟩,ha⟩;have hm:k∈R:=List.mem_iff_getElem?.2 ⟨0,hk⟩;refine ⟨.inr ⟨k,x,hkn,by rw [hin k];unfold Qph;rw [if_pos hm];exact hx,fun q z hq=>Qug hs (by rw [hlr];exact ho) hk hx ((hin q).symm.trans hq),rfl,A,gc,gs,L,c,R',C,S',k1,k2,k3,fun q=>?_⟩,ha⟩
   show (if q=k then none else hp q)=_
   unfold Qph
   by_cases e:q=k
   · rw [if_pos e,if_neg (fun h=>((k4 q).1 h).2 e)]
   · rw [if_neg e,hin q]
     unfold Qph
     by_cases hq:q∈R
     · rw [if_pos hq,if_pos ((k4 q).2 ⟨hq,e⟩)]
     · rw [if_neg hq,if_neg (fun h=>hq ((k4 q).1 h).1)]
set_option maxHeartbeats 1000000 in
theorem Qts (w:World)(hp:Nat→Option Int)(h:Qcn w G g n hp) :
 Calls prog 188 #[.pointer (some ⟨g,0,none⟩)] w fun e w'=>e=.returned (.tuple #[])∧Qcn w' G g n (fun _=>none)∧Aft G w w':=by
 obtain ⟨A,gc,gs,m,c,R,C,S,hw,hs,ho,hin⟩:=h;have hlr:=hw.lr;have hcap:=hw.cap;have hn0:=hw.n0;have hle:=hs.le;have f0:=hw.f0;have HH:=Zh hw;have HS:=Zh hs
 have HNO:=Zh (show ∀ q s,S[q]?=some s→q ∉ R→s=0 from fun q s h1 h2=>by
  rcases s with _|s
  · rfl
  · exact absurd (List.mem_iff_getElem?.2 ⟨s,hs.none_ q s h1⟩) h2)
 clear hw hs ho hin
 go_enter func188,ntmps188
 go_wp2_with fail
 go_loopw [9] (fun x W=>∃ (i:Nat) (S':List Nat),x=.int .i64 i∧i≤m∧Qbi W G g A gc gs n m c R C S'∧(∀ q s,S'[q]?=some s→s=0∨(S[q]?=some s∧q ∉ R.take i))∧Aft G w W) (fun x _=>m-(intOf x).toNat)
 case atStart=>exact ⟨0,S,by go_num,by omega,HH.out,fun q s h1=>.inr ⟨h1,by simp⟩,Aft.refl _ _⟩
 case round =>
  obtain ⟨i,S',rfl,him,hw,hz,ha⟩:=hrel
  by_cases hlt:i<m
  · obtain ⟨gr,hgr,hfr⟩:=hw.rowBlk (by omega)
    subst hgr;obtain ⟨k,hk⟩:∃ k,R[i]?=some k:=⟨_,Qbm 0 (by omega)⟩;have hkn:=(HS.out.seat i k hk).1;have r0:=hw.rowAt hk;have f2:=hw.f2;have s0:=hw.seatAt (i:=k) (Qbm 0 (by rw [hw.ls];exact hkn));have z0:wr.frozen? ⟨gs,k,none⟩=false:=hw.ss.frozen k;have hw2:Qbi (wr.setCell ⟨gs,k,none⟩ (.int .i64 0)) G g (some ⟨gr,0,none⟩) gc gs n m c R C (S'.set k 0):=hw.setS (i:=k) (k:=0);have HW2:=Zh hw2;have HA2:=Zh (ha.set hw.dG.2.2 (i:=k) (.int .i64 0));have HZ:=Zh hz;have i1:(0:Int)≤(i:Int):=by omega
    have i2:(i:Int)<(m:Int):=by omega
    have i3:(0:Int)≤(k:Int):=by omega
    have i4:(k:Int)<(n:Int):=by omega
    have hls:=hw.ls;clear hw hz ha hw2
    go_wp2_with fail
    go_roundw
    case rel =>
     refine ⟨i+1,S'.set k 0,by go_num,by omega,HW2.out,fun q s h1=>?_,HA2.out⟩
     by_cases e:k=q
     · subst e
       rw [List.getElem?_set_self (by omega)] at h1;exact .inl (Option.some.inj h1).symm
     · rw [List.getElem?_set_ne e] at h1
       rcases HZ.out q s h1 with h2|⟨h2,h3⟩
       · exact .inl h2
       · refine .inr ⟨h2,fun h4=>?_⟩
         rw [List.take_add_one,hk] at h4;simp only [Option.toList_some,List.mem_append,List.mem_singleton] at h4;exact h4.elim h3 (fun e2=>e e2.symm)
    case measure=>simp [intOf];omega
  · obtain rfl:i=m:=by omega
    have f0:=hw.f0;have z0:wr.frozen? ⟨g,0,none⟩=false:=hw.blk.frozen 0;have hw2:=hw.cut (L:=0) (by omega);have HW2:=Zh hw2;have HA2:=Zh (ha.set hw.dG.1 (i:=0) (.slice A 0 c));have HZ:=Zh hz;clear hw hz ha hw2
    go_wp2_with fail
    go_end0
    refine ⟨rfl,⟨A,gc,gs,0,c,[],C,S',HW2.out,⟨HW2.out.lc,HW2.out.ls,fun q k h1=>by simp at h1,fun k q h1=>?_⟩,fun q _ h1=>by omega,fun q=>by simp [Qph]⟩,HA2.out⟩
    rcases HZ.out k _ h1 with h2|⟨h2,h3⟩
    · omega
    · rw [List.take_of_length_le (by omega)] at h3
      exact absurd (HNO.out k _ h2 h3) (by omega)
theorem Qft (n:Nat)(hn:n≤1000000000)(W:World):(Instr.makeSlice 34 (.int .i64 (n:Int)) (.int .i64 (n:Int))).run prog W=.ok (.slice (some ⟨W.heap.size,0,none⟩) n n) (W.alloc (.cells (Qbg (.int .i64 0) n) 2)) :=
 Qex (P:=prog) 34 2 (.int .i64 0) 8 Qwo underlying34 rfl n (by omega) (by omega) .i64 .i64 W
theorem nis_zero (n:Nat):nis (List.replicate n 0)=List.replicate n 0:=by simp [nis]
theorem Qcn.made {W w:World}{n g gc gs:Nat} (hb:Blk W g 292 #[.slice none 0 0,.slice (some ⟨gc,0,none⟩) n n,.slice (some ⟨gs,0,none⟩) n n]) (hc:Blk W gc 2 (Qbg (.int .i64 0) n)) (hs:Blk W gs 3 (Qbg (.int .i64 0) n))
 (h1:g≠gc∧g≠gs∧gc≠gs) (h2:w.heap.size≤g∧w.heap.size≤gc∧w.heap.size≤gs) (hz:w.heap.size≤W.heap.size) (hn:n≤16384):Qcn W (fun b=>b<w.heap.size) g n (fun _=>none):=by
 refine ⟨none,gc,gs,0,0,[],List.replicate n 0,List.replicate n 0,⟨hb,Own.nil _ _ _ _,by rw [←Qcz];exact hc,by rw [nis_zero,←Qcz];exact hs,fun b e=>by simp [Qac] at e,h1,⟨by omega,by omega,by omega⟩,fun b hb=>by omega,rfl,by simp,by simp,hn⟩,⟨by simp,by simp,fun i k h=>by simp at h,fun k i h=>?_⟩,fun i _ h=>by omega,fun k=>by simp [Qph]⟩;have:=(Zs h).2;simp at this
set_option maxHeartbeats 1000000 in
theorem Qrq (w:World)(n:Nat)(hn:n≤16384) :
 Calls prog 120 #[.int .i64 n] w fun e w'=>∃ g,e=.returned (.pointer (some ⟨g,0,none⟩))∧Qcn w' (fun b=>b<w.heap.size) g n (fun _=>none)∧Below w.heap.size w w':=by
 have hmk:=Qcv n (by omega);have hmc:=Qft n (by omega);have e1:max (n:Int) 0=(n:Int):=by omega
 have e2:min (n:Int) 16384=(n:Int):=by omega
 go_enter func120,ntmps120
 go_wp2_with fail
 refine wp_region_held_drew (S:=fun V=>Below w.heap.size w V) (by kernel_rfl) (Zr _ _).drew (fun _=>?_);refine tz 0 6 ?_;refine tz 2 8 ?_;refine wpAnyH_ready (rs:=[1,3]) (by kernel_rfl) (by simp) ?_;refine AllReadyH.cons (o:=_) rfl (fun K hK=>?_) (AllReadyH.cons (o:=_) rfl (fun K hK=>?_) AllReadyH.nil)
 · go_simp
   refine hK.out _ _ Qah (fun _=>?_);clear hK K;refine Zk 3 (fun K hK=>?_);go_simp;refine hK.out _ _ Qah (fun _=>?_);clear hK K;refine tz 4 10 ?_;refine Zk 5 (fun K hK=>?_);go_simp;refine hK.out _ _ Qah (fun _=>?_);clear hK K;refine tz 6 2 ?_;refine Zd ?_
   go_wp2_with fail
   go_ret
   refine ⟨_,rfl,Qcn.made (gc:=w.heap.size) (gs:=w.heap.size+1) Qbf Qbf Qbf ?_ ?_ ?_ hn,Qah⟩
   all_goals (simp;try omega)
 · go_simp
   refine hK.out _ _ Qah (fun _=>?_);clear hK K;refine Zk 1 (fun K hK=>?_);go_simp;refine hK.out _ _ Qah (fun _=>?_);clear hK K;refine tz 4 10 ?_;refine Zk 5 (fun K hK=>?_);go_simp;refine hK.out _ _ Qah (fun _=>?_);clear hK K;refine tz 6 2 ?_;refine Zd ?_
   go_wp2_with fail
   go_ret
   refine ⟨_,rfl,Qcn.made (gs:=w.heap.size) (gc:=w.heap.size+1) Qbf Qbf Qbf ?_ ?_ ?_ hn,Qah⟩
   all_goals (simp;try omega)
end
theorem Qcn.more {W W':World}{G G':Nat→Prop}{g n:Nat}{hp:Nat→Option Int}(h:Qcn W G g n hp)(hb:Below W.heap.size W W') (hG:∀ b,G' b→b<W'.heap.size∧(G b∨W.heap.size≤b)):Qcn W' G' g n hp:=by
 obtain ⟨A,gc,gs,m,c,R,C,S,h1,h2⟩:=h;exact ⟨A,gc,gs,m,c,R,C,S,h1.more hb hG,h2⟩
theorem Qcn.less {W:World}{G G':Nat→Prop}{g n:Nat}{hp:Nat→Option Int}(h:Qcn W G g n hp)(hG:∀ b,G' b→G b):Qcn W G' g n hp:=by
 obtain ⟨A,gc,gs,m,c,R,C,S,h1,h2⟩:=h;exact ⟨A,gc,gs,m,c,R,C,S,h1.more (Zr _ _) (fun b hb=>⟨h1.lt b (hG b hb),.inl (hG b hb)⟩),h2⟩
theorem Qcn.lt {W:World}{G:Nat→Prop}{g n:Nat}{hp:Nat→Option Int}(h:Qcn W G g n hp):∀ b,G b→b<W.heap.size:=by
 obtain ⟨A,gc,gs,m,c,R,C,S,h1,h2⟩:=h;exact h1.lt
theorem Qcn.set {W:World}{G:Nat→Prop}{g n k i:Nat}{hp:Nat→Option Int}(h:Qcn W G g n hp)(hk:G k)(v:Value):Qcn (W.setCell ⟨k,i,none⟩ v) G g n hp:=by
 obtain ⟨A,gc,gs,m,c,R,C,S,h1,h2⟩:=h;have hn:∀ b,¬G b→b≠k:=fun b hb e=>hb (e▸hk)
 exact ⟨A,gc,gs,m,c,R,C,S,⟨h1.blk.far_ (hn _ h1.dG.1) _,h1.row.far (Qaa _ _ _ _) (.inr fun e=>(h1.dA k e).2.2.2 hk),h1.cs.far_ (hn _ h1.dG.2.1) _,h1.ss.far_ (hn _ h1.dG.2.2) _,h1.dA,h1.dg,h1.dG,fun b hb=>by simpa [World.setCell] using h1.lt b hb,h1.lr,h1.lc,h1.ls,h1.n0⟩,h2⟩
theorem Le.kept {K:Nat→Prop}{W0 W:World}(h:Qbk K W0 W):Le (msk W0 K) W:=(Qbk.msk h).trans (Qbj _ _)
theorem Aft.mono {G G':Nat→Prop}{a b:World}(h:Aft G a b)(hs:∀ b,G' b→G b):Aft G' a b:=⟨h.kept.mono hs,h.size,fun B hB=>h.bel B (fun b hb=>hs b (hB b hb))⟩
theorem nis_idx (f:Tri→Int)(l:List Tri)(v:Int):∃ bs:List Nat,nis bs=idx f l v∧∀ b∈bs,∃ y,l[b]?=some y∧f y=v:=by
 refine ⟨(idx f l v).map Int.toNat,?_,fun b hb=>?_⟩
 · unfold nis
   rw [List.map_map];refine (List.map_congr_left (g:=id) fun z hz=>?_).trans (List.map_id _);obtain ⟨i,a,rfl,_⟩:=Qhu.1 hz;simp
 · obtain ⟨z,hz,rfl⟩:=List.mem_map.1 hb
   obtain ⟨i,a,rfl,h1,h2⟩:=Qhu.1 hz;exact ⟨a,by simpa using h1,h2⟩
end Go.Proofs.YteaoiabikjnkeaaGreatDoor
namespace Go.Proofs.YteaoiabikjnkeaaGreatDoor
/-! Least costs over steps; plain. -/
abbrev Qbu:=Nat→Nat→Int→Prop
inductive Rch (St:Qbu) (s:Nat):Nat→Int→Prop
 | start:Rch St s s 0
 | step {p q:Nat} {c d:Int}:Rch St s p c→St p q d→Rch St s q (c+d)
theorem Rch.pos {St:Qbu}(h0:∀ p q d,St p q d→0≤d){s p:Nat}{c:Int}(h:Rch St s p c):0≤c:=by
 induction h with
 | start=>exact Int.le_refl _
 | step _ h2 ih=>have:=h0 _ _ _ h2;omega
theorem Rch.trans {St:Qbu}{s p q:Nat}{c d:Int}(h:Rch St s p c)(g:Rch St p q d):Rch St s q (c+d):=by
 induction g with
 | start=>simpa using h
 | step _ h2 ih=>rw [←Int.add_assoc];exact ih.step h2
theorem Rch.mono {St St':Qbu}(hm:∀ p q d,St p q d→St' p q d){s p:Nat}{c:Int}(h:Rch St s p c):Rch St' s p c:=by
 induction h with
 | start=>exact .start
 | step _ h2 ih=>exact ih.step (hm _ _ _ h2)
def Qvm (St Out:Qbu)(s k:Nat)(v:Int):Prop:=∃ p c d,Rch St s p c∧Out p k d∧v=c+d
def INF:Int:=1152921504606846976
def Lst (P:Int→Prop)(v:Int):Prop:=(P v∧∀ c,P c→v≤c)∨(v=INF∧∀ c,¬P c)
theorem Lst.uniq {P:Int→Prop}{a b:Int}(h:Lst P a)(g:Lst P b):a=b:=by
 rcases h with ⟨h1,h2⟩|⟨h1,h2⟩ <;> rcases g with ⟨g1,g2⟩|⟨g1,g2⟩
 · have:=h2 _ g1;have:=g2 _ h1;omega
 · exact absurd h1 (g2 _)
 · exact absurd g1 (h2 _)
 · rw [h1,g1]
theorem Lst.conv {P Q:Int→Prop}{v:Int}(h:Lst P v)(h1:∀ c,P c→∃ d,Q d∧d≤c)(h2:∀ c,Q c→∃ d,P d∧d≤c):Lst Q v:=by
 rcases h with ⟨hv,hm⟩|⟨hv,hn⟩
 · left
   obtain ⟨d,hd,hle⟩:=h1 v hv;obtain ⟨e,he,hle2⟩:=h2 d hd;have h3:=hm e he;have:d=v:=by omega
   subst this;refine ⟨hd,fun c hc=>?_⟩;obtain ⟨e,he,hle⟩:=h2 c hc;have:=hm e he;omega
 · right
   refine ⟨hv,fun c hc=>?_⟩;obtain ⟨e,he,_⟩:=h2 c hc;exact hn e he
/-! Cells within cells: K p: the kid in which one stands behind p; In: the steps within a kid. -/
structure Qju (St Out:Qbu) (SK:Qbu) (E:Nat→Nat→Int→Prop) (CSt COut:Qbu) (ins:Nat→Prop) (W:Nat→Int) (T:Nat→Nat→Int→Prop):Prop where
 /-- a step within a kid is a step; what is no such step goes out of the kid, by an arc that is an entry's end -/
 sub:∀ p q d,SK p q d→St p q d
 split:∀ p q d,St p q d→SK p q d∨(ins q∧∃ t,T p q t∧d=t+W q∧0≤W q)
 join:∀ a p q c t,ins a→Rch SK a p c→T p q t→(∃ d,St p q d∧¬SK p q d)→St p q (t+W q)
 /-- coarse steps -/
 cst:∀ a q d,CSt a q d→ins a∧ins q∧∃ v,E a q v∧d=v+W q∧(∃ p c t,Rch SK a p c∧T p q t∧v=c+t∧St p q (t+W q))
 cst2:∀ a p q c t,ins a→Rch SK a p c→T p q t→ins q→St p q (t+W q)→¬SK p q (t+W q)→∃ d,CSt a q d∧d≤c+t+W q
 cout:∀ a k d,COut a k d→∃ p c t,Rch SK a p c∧Out p k t∧d=c+t
 cout2:∀ a p k c t,ins a→Rch SK a p c→Out p k t→∃ d,COut a k d∧d≤c+t
theorem Qju.up {St Out SK:Qbu}{E:Nat→Nat→Int→Prop}{CSt COut:Qbu}{ins:Nat→Prop}{W:Nat→Int}{T:Nat→Nat→Int→Prop}(h:Qju St Out SK E CSt COut ins W T)
 {s q:Nat} {c:Int} (hr:Rch CSt s q c):Rch St s q c:=by
 induction hr with
 | start=>exact .start
 | step h1 h2 ih =>
  obtain ⟨_,_,v,_,rfl,p,c',t,h3,h4,rfl,h5⟩:=h.cst _ _ _ h2;have:=(ih.trans (h3.mono h.sub)).step h5;rw [show ∀ a b c d:Int,a+b+(c+d)=a+(b+c+d) from fun a b c d=>by omega] at this
  exact this
theorem Qju.down {St Out SK:Qbu}{E:Nat→Nat→Int→Prop}{CSt COut:Qbu}{ins:Nat→Prop}{W:Nat→Int}{T:Nat→Nat→Int→Prop}(h:Qju St Out SK E CSt COut ins W T)
 (hsk:∀ p q d,St p q d→SK p q d∨¬SK p q d) {s q:Nat} {c:Int} (hs:ins s) (hr:Rch St s q c):∃ a c1 c2,ins a∧Rch CSt s a c1∧Rch SK a q c2∧c1+c2≤c:=by
 induction hr with
 | start=>exact ⟨s,0,0,hs,.start,.start,by omega⟩
 | @step p q c d h1 h2 ih =>
  obtain ⟨a,c1,c2,ha,g1,g2,g3⟩:=ih
  rcases hsk _ _ _ h2 with hk|hk
  · exact ⟨a,c1,c2+d,ha,g1,g2.step hk,by omega⟩
  · rcases h.split _ _ _ h2 with hk'|⟨hq,t,ht,rfl,hw⟩
    · exact absurd hk' hk
    · obtain ⟨e,he,hle⟩:=h.cst2 a p q c2 t ha g2 ht hq h2 hk
      exact ⟨q,c1+e,0,hq,g1.step he,.start,by omega⟩
theorem Qju.same {St Out SK:Qbu}{E:Nat→Nat→Int→Prop}{CSt COut:Qbu}{ins:Nat→Prop}{W:Nat→Int}{T:Nat→Nat→Int→Prop}(h:Qju St Out SK E CSt COut ins W T)
 (hsk:∀ p q d,St p q d→SK p q d∨¬SK p q d) {s k:Nat} {v:Int} (hs:ins s) (hl:Lst (Qvm CSt COut s k) v):Lst (Qvm St Out s k) v:=by
 refine hl.conv (fun c hc=>?_) (fun c hc=>?_)
 · obtain ⟨a,c1,d,h1,h2,rfl⟩:=hc
   obtain ⟨p,c2,t,h3,h4,rfl⟩:=h.cout _ _ _ h2;exact ⟨_,⟨p,c1+c2,t,(h.up h1).trans (h3.mono h.sub),h4,rfl⟩,by omega⟩
 · obtain ⟨p,c1,t,h1,h2,rfl⟩:=hc
   obtain ⟨a,e1,e2,ha,g1,g2,g3⟩:=h.down hsk hs h1;obtain ⟨d,hd,hle⟩:=h.cout2 a p k e2 t ha g2 h2;exact ⟨_,⟨a,e1,d,g1,hd,rfl⟩,by omega⟩
/-! The least first. -/
structure Dij (St:Qbu) (s:Nat) (dn:Nat→Option Int) (hp:Nat→Option Int):Prop where
 dr:∀ p c,dn p=some c→Rch St s p c
 dm:∀ p c,dn p=some c→∀ e,Rch St s p e→c≤e
 hr:∀ p c,hp p=some c→Rch St s p c
 off:∀ p c,dn p=some c→hp p=none
 on:∀ p c q d,dn p=some c→St p q d→(∃ e,dn q=some e∧e≤c+d)∨(∃ e,hp q=some e∧e≤c+d)
 st:dn s≠none∨∃ e,hp s=some e∧e≤0
theorem Dij.wait {St:Qbu}{s:Nat}{dn hp:Nat→Option Int}(h:Dij St s dn hp)(h0:∀ p q d,St p q d→0≤d){p:Nat}{c:Int}(hr:Rch St s p c):(∃ e,dn p=some e∧e≤c)∨∃ q e,hp q=some e∧e≤c:=by
 induction hr with
 | start =>
  rcases h.st with h1|⟨e,h1,h2⟩
  · left
    cases hd:dn s with
    | none=>exact absurd hd h1
    | some e=>exact ⟨e,rfl,h.dm s e hd 0 .start⟩
  · exact .inr ⟨s,e,h1,h2⟩
 | @step p q c d h1 h2 ih =>
  have hd:=h0 _ _ _ h2
  rcases ih with ⟨e,h3,h4⟩|⟨r,e,h3,h4⟩
  · rcases h.on p e q d h3 h2 with ⟨f,h5,h6⟩|⟨f,h5,h6⟩
    · exact .inl ⟨f,h5,by omega⟩
    · exact .inr ⟨q,f,h5,by omega⟩
  · exact .inr ⟨r,e,h3,by omega⟩
theorem Dij.least {St:Qbu}{s:Nat}{dn hp:Nat→Option Int}(h:Dij St s dn hp)(h0:∀ p q d,St p q d→0≤d){p:Nat}{c:Int}(hp1:hp p=some c)(hm:∀ q e,hp q=some e→c≤e):∀ e,Rch St s p e→c≤e:=by
 intro e hr
 rcases h.wait h0 hr with ⟨f,h1,_⟩|⟨q,f,h1,h2⟩
 · have:=h.off p f h1
   rw [hp1] at this
   cases this
 · have:=hm q f h1
   omega
theorem Dij.all {St:Qbu}{s:Nat}{dn hp:Nat→Option Int}(h:Dij St s dn hp)(h0:∀ p q d,St p q d→0≤d)(he:∀ q,hp q=none){p:Nat}{c:Int}(hr:Rch St s p c):∃ e,dn p=some e∧e≤c:=by
 rcases h.wait h0 hr with h1|⟨q,e,h1,_⟩
 · exact h1
 · rw [he q] at h1;cases h1
structure Qoy (St:Qbu) (s:Nat) (dn hp:Nat→Option Int) (p:Nat) (c:Int) (Gone:Nat→Int→Prop):Prop where
 dr:∀ q e,dn q=some e→Rch St s q e
 dm:∀ q e,dn q=some e→∀ f,Rch St s q f→e≤f
 hr:∀ q e,hp q=some e→Rch St s q e
 off:∀ q e,dn q=some e→hp q=none
 on:∀ q e r d,dn q=some e→St q r d→(q=p∧¬Gone r d)∨(∃ f,dn r=some f∧f≤e+d)∨(∃ f,hp r=some f∧f≤e+d)
 st:dn s≠none∨∃ e,hp s=some e∧e≤0
 at_:dn p=some c
theorem Dij.take {St:Qbu}{s:Nat}{dn hp:Nat→Option Int}(h:Dij St s dn hp)(h0:∀ p q d,St p q d→0≤d){p:Nat}{c:Int}(hp1:hp p=some c)(hm:∀ q e,hp q=some e→c≤e) :
 Qoy St s (fun q=>if q=p then some c else dn q) (fun q=>if q=p then none else hp q) p c (fun _ _=>False) where
 dr:=fun q e he=>by
  by_cases hq:q=p
  · subst hq;simp at he;subst he;exact h.hr q c hp1
  · simp [hq] at he;exact h.dr q e he
 dm:=fun q e he f hf=>by
  by_cases hq:q=p
  · subst hq;simp at he;subst he;exact h.least h0 hp1 hm f hf
  · simp [hq] at he;exact h.dm q e he f hf
 hr:=fun q e he=>by
  by_cases hq:q=p
  · simp [hq] at he
  · simp [hq] at he;exact h.hr q e he
 off:=fun q e he=>by
  by_cases hq:q=p
  · simp [hq]
  · simp [hq] at he ⊢;exact h.off q e he
 on:=fun q e r d he hs=>by
  by_cases hq:q=p
  · exact .inl ⟨hq,fun h=>h⟩
  · simp [hq] at he
    right
    rcases h.on q e r d he hs with ⟨f,h1,h2⟩|⟨f,h1,h2⟩
    · by_cases hr:r=p
      · subst hr
        have:=h.off r f h1;rw [hp1] at this
        cases this
      · exact .inl ⟨f,by simp [hr,h1],h2⟩
    · by_cases hr:r=p
      · subst hr
        rw [hp1] at h1
        cases h1
        exact .inl ⟨c,by simp,h2⟩
      · exact .inr ⟨f,by simp [hr,h1],h2⟩
 st:=by
  by_cases hs:s=p
  · left;simp [hs]
  · rcases h.st with h1|⟨e,h1,h2⟩
    · left;simpa [hs] using h1
    · right;exact ⟨e,by simp [hs,h1],h2⟩
 at_:=by simp
theorem Qoy.put {St:Qbu}{s:Nat}{dn hp hp':Nat→Option Int}{p q:Nat}{c d:Int}{Gone:Nat→Int→Prop}(h:Qoy St s dn hp p c Gone)(hs:St p q d)
 (hput:(dn q≠none∧(∀ e,dn q=some e→e≤c+d)∧hp'=hp)∨(dn q=none∧(∀ r,r≠q→hp' r=hp r)∧((∃ e,hp q=some e∧e≤c+d∧hp' q=some e)∨((∀ e,hp q=some e→c+d≤e)∧hp' q=some (c+d))))) :
 Qoy St s dn hp' p c (fun r e=>Gone r e∨(r=q∧e=d)) where
 dr:=h.dr
 dm:=h.dm
 hr:=fun r e he=>by
  rcases hput with ⟨_,_,rfl⟩|⟨_,h2,h3⟩
  · exact h.hr r e he
  · by_cases hr:r=q
    · subst hr
      rcases h3 with ⟨f,h4,_,h5⟩|⟨_,h5⟩
      · rw [h5] at he;cases he;exact h.hr r _ h4
      · rw [h5] at he;cases he;exact (h.dr p c h.at_).step hs
    · rw [h2 r hr] at he;exact h.hr r e he
 off:=fun r e he=>by
  rcases hput with ⟨_,_,rfl⟩|⟨h1,h2,_⟩
  · exact h.off r e he
  · by_cases hr:r=q
    · subst hr;rw [h1] at he;cases he
    · rw [h2 r hr];exact h.off r e he
 on:=fun r e t f he hst=>by
  have key:∀ g,(∃ x,hp t=some x∧x≤g)→∃ x,hp' t=some x∧x≤g:=fun g ⟨x,h1,h2⟩=>by
   rcases hput with ⟨_,_,rfl⟩|⟨_,h4,h5⟩
   · exact ⟨x,h1,h2⟩
   · by_cases ht:t=q
     · subst ht
       rcases h5 with ⟨y,h6,_,h7⟩|⟨h6,h7⟩
       · rw [h1] at h6;cases h6;exact ⟨x,h7,h2⟩
       · exact ⟨c+d,h7,by have:=h6 x h1;omega⟩
     · exact ⟨x,by rw [h4 t ht];exact h1,h2⟩
  rcases h.on r e t f he hst with ⟨h1,h2⟩|h1|h1
  · by_cases hg:t=q∧f=d
    · obtain ⟨rfl,rfl⟩:=hg
      subst h1;rw [h.at_] at he
      cases he
      right
      rcases hput with ⟨h3,h4,rfl⟩|⟨h3,h4,h5⟩
      · left
        cases hd:dn t with
        | none=>exact absurd hd h3
        | some x=>exact ⟨x,rfl,h4 x hd⟩
      · right
        rcases h5 with ⟨y,h6,h7,h8⟩|⟨_,h8⟩
        · exact ⟨y,h8,h7⟩
        · exact ⟨_,h8,Int.le_refl _⟩
    · exact .inl ⟨h1,fun hx=>hx.elim h2 hg⟩
  · exact .inr (.inl h1)
  · exact .inr (.inr (key _ h1))
 st:=by
  rcases h.st with h1|⟨e,h1,h2⟩
  · exact .inl h1
  · right
    rcases hput with ⟨_,_,rfl⟩|⟨_,h4,h5⟩
    · exact ⟨e,h1,h2⟩
    · by_cases ht:s=q
      · subst ht
        rcases h5 with ⟨y,h6,_,h7⟩|⟨h6,h7⟩
        · rw [h1] at h6;cases h6;exact ⟨e,h7,h2⟩
        · exact ⟨c+d,h7,by have:=h6 e h1;omega⟩
      · exact ⟨e,by rw [h4 s ht];exact h1,h2⟩
 at_:=h.at_
theorem Qoy.done {St:Qbu}{s:Nat}{dn hp:Nat→Option Int}{p:Nat}{c:Int}{Gone:Nat→Int→Prop}(h:Qoy St s dn hp p c Gone)(hg:∀ q d,St p q d→Gone q d):Dij St s dn hp :=
 ⟨h.dr,h.dm,h.hr,h.off,fun q e r d h1 h2=>by
  rcases h.on q e r d h1 h2 with ⟨h3,h4⟩|h3|h3
  · subst h3;exact absurd (hg r d h2) h4
  · exact .inl h3
  · exact .inr h3,h.st⟩
structure OutB (Out:Qbu) (dn:Nat→Option Int) (k:Nat) (b:Int) (Extra:Int→Prop):Prop where
 lo:∀ p c d,dn p=some c→Out p k d→¬Extra (c+d)→b≤c+d
 hit:b=INF∨∃ p c d,dn p=some c∧Out p k d∧b=c+d
theorem OutB.least {St Out:Qbu}{s k:Nat}{dn hp:Nat→Option Int}{b:Int}(h:Dij St s dn hp)(h0:∀ p q d,St p q d→0≤d)(he:∀ q,hp q=none) (hb:OutB Out dn k b (fun _=>False)) (hlt:∀ p c d,dn p=some c→Out p k d→c+d<INF):Lst (Qvm St Out s k) b:=by
 rcases hb.hit with h1|⟨p,c,d,h1,h2,h3⟩
 · right
   refine ⟨h1,fun v ⟨p,c,d,h2,h3,h4⟩=>?_⟩;obtain ⟨e,h5,_⟩:=h.all h0 he h2;have:=hb.lo p e d h5 h3 (fun h=>h);have:=hlt p e d h5 h3;omega
 · left
   refine ⟨⟨p,c,d,h.dr p c h1,h2,h3⟩,fun v ⟨q,e,f,h4,h5,h6⟩=>?_⟩;obtain ⟨x,h7,h8⟩:=h.all h0 he h4;have:=hb.lo q x f h7 h5 (fun h=>h);omega
end Go.Proofs.YteaoiabikjnkeaaGreatDoor
