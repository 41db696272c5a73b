/- Parts of the proof: Gb, Gt, Hv, InA, Dj, InP, InB, Dk, InQ. -/
import Derived.Test.YthoagdpakddbdaaGreatDoorL4
namespace Go.Proofs.YthoagdpakddbdaaGreatDoor
open Go.RowKit Go.Proofs.Tryz
attribute [local go_sem ↓] Go.wp_at_zero Go.wp_at_succ
set_option maxHeartbeats 1000000 in
theorem Qox (A:Option Addr)(n c:Nat)(t:Qby)(i o:Nat)(w:World)(h:RdI w A n t.costs)(ht:Qih t) (hi:(i:Int)<t.ins) (ho:(o:Int)<t.outs) :
 Calls prog 68 #[.agg #[.int .i64 t.ins,.int .i64 t.outs,.slice A n c],.int .i64 i,.int .i64 o] w fun e w'=>∃ x,t.costs[i*t.outs.toNat+o]?=some x∧e=.returned (.int .i64 x)∧Below w.heap.size w w':=by
 obtain ⟨p,q,cs⟩:=t;simp only at h hi ho ⊢;have i0:0≤p:=ht.i0;have i16:p≤16:=ht.i16;have o0:0≤q:=ht.o0;have o16:q≤16:=ht.o16;have hm:=Qgo i0 i16 o0 o16;have hl:(cs.length:Int)=p*q:=ht.len
 have hk:(i:Int)*q+o<p*q:=by
  have h1:((i:Int)+1)*q≤p*q:=Int.mul_le_mul_of_nonneg_right (by omega) o0;rw [Int.add_mul,Int.one_mul] at h1;omega
 have hk0:0≤(i:Int)*q:=Int.mul_nonneg (by omega) o0;obtain ⟨k,hkk⟩:∃ k:Nat,(k:Int)=(i:Int)*q+o:=⟨((i:Int)*q+o).toNat,by omega⟩
 have hke:i*q.toNat+o=k:=by
  have:((i*q.toNat+o:Nat):Int)=(k:Int):=by
   rw [hkk]
   push_cast
   rw [Int.toNat_of_nonneg o0]
  exact_mod_cast this
 rw [hke];have hkl:k<n:=by rw [←h.1];omega
 obtain ⟨b,oo,x,hA,hx,hc⟩:=h.at_ hkl;subst hA;have hn:n≤256:=by rw [←h.1];omega
 have HSD:=Zh (fun V=>Qts p q V i0 i16 o0 o16);have e1:IntKind.i64.wrap ((i:Int)*q)=(i:Int)*q:=IntWalk.i64_in _ (by omega);have e2:IntKind.i64.wrap ((i:Int)*q+o)=(k:Int):=by rw [←hkk];exact IntWalk.i64_in _ (by omega)
 have i1:((k:Int))<(n:Int):=by omega
 have HX:=Zh hx;have g1:decide ((i:Int)<0)=false:=by simp
 have g2:decide (p≤(i:Int))=false:=by simp;omega
 have g3:decide ((o:Int)<0)=false:=by simp
 have g4:decide (q≤(o:Int))=false:=by simp;omega
 clear h ht hl hk hkk hke hx hm hk0
 go_enter func68,ntmps68
 have hcA:∀ ob,(w.alloc ob).cell? ⟨b,oo+k,none⟩=some (.int .i64 x):=fun ob=>Zc ((Zr _ w).alloc (Zn _) ob) (Zn _) hc
 go_wp2_with fail
 with_reducible refine (HSD.out _).mono ?_
 rintro e w' ⟨rfl,rfl⟩
 go_wp2_with fail
 go_ret
 exact ⟨x,HX.out,rfl,Qaf⟩
theorem gVert_ok (g v:Nat)(N:Qai)(w:World)(h:Qgm w g N)(hv:v<N.vs.length):Calls prog 156 #[.pointer (some ⟨g,0,none⟩),.int .i64 v] w fun e w'=>e=.returned (.bool true)∧w=w':=by
 obtain ⟨A,B,C,I,O,P,n,m,k,c,d,e,ci,co,cp,h⟩:=h;have hn0:=h.n0;have hnn:N.vs.length=n:=h.net.1.1;have hlv:=h.ok.lv;have i1:(0:Int)≤(v:Int):=by omega
 have i2:(v:Int)<(n:Int):=by omega
 clear h
 go_enter func156,ntmps156
 go_wp2
 go_ret
 exact ⟨rfl,rfl⟩
theorem gOuts_ok (g v:Nat)(N:Qai)(w:World)(h:Qgm w g N)(hv:v<N.vs.length):Calls prog 129 #[.pointer (some ⟨g,0,none⟩),.int .i64 v] w fun e w'=>∃ A n c,e=.returned (.slice A n c)∧Own w' w.heap.size 3 1 A n c (Qad (idx (·.1) N.ar (v:Int)))∧Below w.heap.size w w':=by
 obtain ⟨A,B,C,I,O,P,n,m,k,c,d,e,ci,co,cp,h⟩:=h;have hn1:=h.n0;have hn4:=h.n4;have hlv:=h.ok.lv;have hnn:N.vs.length=n:=h.net.1.1;obtain ⟨b,o,A',n',c',l,hO,hl,h1,h2,h3,h4⟩:=h.outs.at_ (i:=v) (by omega);rw [Qde (by omega)] at hl
 cases hl
 subst hO
 have hn':n'≤16384:=by
  rw [←h2.1];have:=Qhw (·.1) N.ar N.ar.length (v:Int);rw [List.take_length] at this;have:=h.ok.la;omega
 have HC:=Zh (Qmc A' n' c' _ w h2.rds (Qam _) (by omega));have HV:=Zh (gVert_ok g v N w ⟨_,_,_,_,_,_,_,_,_,_,_,_,_,_,_,h⟩ hv);have i1:(0:Int)≤(v:Int):=by omega
 have i2:(v:Int)<(n:Int):=by omega
 clear h h2
 go_enter func129,ntmps129
 go_wp2_with fail
 with_reducible refine HV.out.mono ?_
 rintro e w' ⟨rfl,rfl⟩
 go_wp2_with fail
 with_reducible refine HC.out.mono ?_
 rintro e w' ⟨A2,c2,rfl,ho,hb⟩;have HO:=Zh ho;have HB:=Zh hb;clear ho hb
 go_wp2_with fail
 go_ret
 exact ⟨_,_,_,rfl,HO.out,HB.out⟩
def Qal (N:Qai)(a b:Nat):Int :=
 match N.ar[a]?,N.ar[b]? with
 | some x,some y=>if x.2.1=y.1 then (match N.vs[x.2.1.toNat]? with
  | some v=>(match N.ts[v.2.2.toNat]? with
   | some t=>t.costs.getD ((Qfg N.ar a x).1.toNat*t.outs.toNat+(Qfg N.ar b y).2.toNat) 1152921504606846976
   | none=>1152921504606846976)
  | none=>1152921504606846976) else 1152921504606846976
 | _,_=>1152921504606846976
theorem Qjp {f:Tri→Int}{l:List Tri}{k:Nat}{a:Tri}{v:Int} (h:l[k]?=some a) (hv:f a=v):(idx f (l.take k) v).length<l.countP (fun x=>f x == v):=by
 rw [Qmy]
 have h1:(l.take (k+1)).countP (fun x=>f x == v)=(l.take k).countP (fun x=>f x == v)+1:=by
  rw [List.take_add_one,h,List.countP_append];simp [hv]
 have h2:=(List.take_sublist (k+1) l).countP_le (p:=fun x=>f x == v);omega
set_option maxHeartbeats 2000000 in
theorem gTurn_ok (g a b:Nat)(N:Qai)(x y:Tri)(w:World)(h:Qgm w g N) (hx:N.ar[a]?=some x) (hy:N.ar[b]?=some y) :
 Calls prog 130 #[.pointer (some ⟨g,0,none⟩),.int .i64 a,.int .i64 b] w fun e w'=>e=.returned (.int .i64 (Qal N a b))∧Below w.heap.size w w':=by
 have hla:=(Zs hx).1;have hlb:=(Zs hy).1;have HA:=Zh (fun V (hV:Below w.heap.size w V)=>Qis g N a V (h.below hV) (by omega) (by omega));have HB:=Zh (fun V (hV:Below w.heap.size w V)=>Qis g N b V (h.below hV) (by omega) (by omega));have hax:=(show Qav N from by obtain ⟨A,B,C,I,O,P,n,m,k,c,d,e,ci,co,cp,h⟩:=h;exact h.ok).arcs x (Zm hx)
 obtain ⟨A,B,C,I,O,P,n,m,k,c,d,e,ci,co,cp,h⟩:=h;have hm:=h.ok.arLe h.net.2.1.1;have hlm:N.ar.length=m:=h.net.2.1.1;have hln:N.vs.length=n:=h.net.1.1;have hn4:=h.ok.lv;obtain ⟨bb,o,x1,x2,x3,rfl,hx',ax,ay,az⟩:=h.net.2.1.at_ (i:=a) (by omega);rw [hx] at hx'
 cases hx'
 obtain ⟨bb',o',y1,y2,y3,e',hy',bx,by_,bz⟩:=h.net.2.1.at_ (i:=b) (by omega)
 cases e'
 rw [hy] at hy'
 cases hy'
 have n1:=h.n1;have i1:(0:Int)≤(a:Int):=by omega
 have i2:(a:Int)<(m:Int):=by omega
 have i3:(0:Int)≤(b:Int):=by omega
 have i4:(b:Int)<(m:Int):=by omega
 have HSX:=Zh (show ∀ V,Below w.heap.size w V→V.cell? ⟨g,1,none⟩=some (.slice (some ⟨bb,o,none⟩) m d)∧V.cell? ⟨bb,o+a*3+1,none⟩=some (.int .i64 x2)∧V.cell? ⟨bb,o+b*3,none⟩=some (.int .i64 y1) from
  fun V hV=>⟨Zc hV (Zn _) n1,Zc hV (Zn _) ay,Zc hV (Zn _) bx⟩)
 have hay:=h.ok.arcs _ (Zm hy);obtain ⟨v,rfl⟩:∃ v:Nat,x2=(v:Int):=⟨x2.toNat,by have:=hax.g0;simp only at this;omega⟩;have hvn:v<n:=by have:=hax.g1;simp only at this;omega
 obtain ⟨b2,o2,v1,v2,v3,hA2,hv,vx,vy,vz⟩:=h.net.1.at_ (i:=v) hvn;subst hA2;have hvo:=h.ok.verts _ (Zm hv);obtain ⟨t,rfl⟩:∃ t:Nat,v3=(t:Int):=⟨v3.toNat,by have:=hvo.t0;simp only at this;omega⟩;have htl:N.ts.length=k:=h.net.2.2.1;have htk:t<k:=by have:=hvo.t1;simp only at this;omega
 obtain ⟨b3,o3,tb,hA3,htb,t0,t1,AT,nT,cT,t2,hrd,hnT,hcT⟩:=h.net.2.2.at_ htk;subst hA3;have hto:=h.ok.tabs tb (Zm htb);have hk:=h.ok.lt;obtain ⟨b4,o4,pa1,pa2,hA4,hpa,pa,pb⟩:=h.plc.at_ (i:=a) (by omega);subst hA4;rw [Qhj hx] at hpa;obtain ⟨b4',o4',pb1,pb2,e4,hpb,qa,qb⟩:=h.plc.at_ (i:=b) (by omega)
 cases e4
 rw [Qhj hy] at hpb;have n0:=h.n0;have n2:=h.n2;have n5:=h.n5;have hmt:=h.ok.meet v _ tb hv (by simpa using htb);obtain ⟨i,hi⟩:∃ i:Nat,i=(idx (·.2.1) (N.ar.take a) (v:Int)).length:=⟨_,rfl⟩;have hip:(i:Int)<tb.ins:=by rw [←hmt.1,hi];exact_mod_cast Qjp (f:=(·.2.1)) hx rfl
 have hpa1:pa1=(i:Int):=by simp only [Qfg,Option.some.injEq,Prod.mk.injEq] at hpa;rw [hi];exact hpa.1.symm
 subst hpa1;obtain ⟨q,hq⟩:∃ q:Nat,q=(idx (·.1) (N.ar.take b) y1).length:=⟨_,rfl⟩;have hqp:y1=(v:Int)→(q:Int)<tb.outs:=fun e=>by rw [←hmt.2,hq,e];exact_mod_cast Qjp (f:=(·.1)) hy e
 have hpb2:pb2=(q:Int):=by simp only [Qfg,Option.some.injEq,Prod.mk.injEq] at hpb;rw [hq];exact hpb.2.symm
 subst hpb2
 have HTN:=Zh (show ∀ z,y1=(v:Int)→tb.costs[i*tb.outs.toNat+q]?=some z→Qal N a b=z from fun z e hz=>by
  unfold Qal;rw [hx,hy];simp only [if_pos e.symm,Yl,hv,htb,Qfg,←hi,←hq];rw [Ya,hz]
  rfl)
 have i5:(0:Int)≤(v:Int):=by omega
 have i6:(v:Int)<(n:Int):=by omega
 have i7:(0:Int)≤(t:Int):=by omega
 have i8:(t:Int)<(k:Int):=by omega
 have HTA:=Zh (fun V (hV:Below w.heap.size w V) (e:y1=(v:Int))=>Qox AT nT cT tb i q V (hrd.below hV) hto hip (hqp e))
 have HY:=Zh (show ∀ V,Below w.heap.size w V→V.cell? ⟨g,0,none⟩=some (.slice (some ⟨b2,o2,none⟩) n c)∧V.cell? ⟨g,2,none⟩=some (.slice (some ⟨b3,o3,none⟩) k e)∧V.cell? ⟨g,5,none⟩=some (.slice (some ⟨b4,o4,none⟩) m cp) ∧
  V.cell? ⟨b2,o2+v*3,none⟩=some (.int .i64 v1)∧V.cell? ⟨b2,o2+v*3+1,none⟩=some (.int .i64 v2)∧V.cell? ⟨b2,o2+v*3+2,none⟩=some (.int .i64 t) ∧
  V.cell? ⟨b3,o3+t*3,none⟩=some (.int .i64 tb.ins)∧V.cell? ⟨b3,o3+t*3+1,none⟩=some (.int .i64 tb.outs)∧V.cell? ⟨b3,o3+t*3+2,none⟩=some (.slice AT nT cT) ∧
  V.cell? ⟨b4,o4+a*2,none⟩=some (.int .i64 i)∧V.cell? ⟨b4,o4+b*2+1,none⟩=some (.int .i64 q) from
  fun V hV=>⟨Zc hV (Zn _) n0,Zc hV (Zn _) n2,Zc hV (Zn _) n5,Zc hV (Zn _) vx,Zc hV (Zn _) vy,Zc hV (Zn _) vz,Zc hV (Zn _) t0,Zc hV (Zn _) t1,Zc hV (Zn _) t2,Zc hV (Zn _) pa,Zc hV (Zn _) qb⟩)
 clear n0 n2 n5 vx vy vz t0 t1 t2 pa pb qa qb hpa hpb hrd hip hqp hmt hv htb hi hq;clear h n1 ax ay az bx by_ bz
 go_enter func130,ntmps130
 go_wp2_with fail
 refine wp_region_held_drew (S:=fun V=>Below w.heap.size w V) (by kernel_rfl) (Zr _ _).drew (fun _=>?_);refine tz 0 8 ?_;refine tz 1 9 ?_;refine Zk 2 (fun K hK=>?_);go_simp;with_reducible refine (HA.out _ Qaf).mono ?_
 rintro e w' ⟨rfl,rfl⟩;go_simp;refine hK.out _ _ Qaf (fun _=>?_);clear hK K;refine tz 3 11 ?_;refine tz 4 12 ?_;refine tz 5 13 ?_;refine tz 6 14 ?_;refine Zk 7 (fun K hK=>?_);go_simp;with_reducible refine (HB.out _ Qaf).mono ?_
 rintro e w' ⟨rfl,rfl⟩;go_simp;refine hK.out _ _ Qaf (fun _=>?_);clear hK K;refine tz 8 16 ?_;refine tz 9 17 ?_;refine tz 10 18 ?_;refine tz 11 19 ?_;refine tz 12 20 ?_;refine tz 13 21 ?_;refine tz 14 22 ?_;refine tz 15 23 ?_;refine tz 16 24 ?_;refine tz 17 25 ?_;refine tz 18 26 ?_;refine tz 19 27 ?_;refine tz 20 28 ?_;refine tz 21 29 ?_;refine tz 22 30 ?_;refine tz 23 31 ?_;refine tz 24 32 ?_;refine tz 25 33 ?_;refine tz 26 34 ?_;refine tz 27 35 ?_;refine tz 28 36 ?_;refine tz 29 37 ?_;refine tz 30 38 ?_;refine Zd ?_
 by_cases hxy:(v:Int)=y1
 · have e1:((v:Int) != y1)=false:=by simp [hxy]
   subst hxy;have HSX1:=HSX;clear HSX;have HSX:=Zh (fun V hV=>And.intro (HSX1.out V hV) (HY.out V hV))
   go_wp2_with fail
   refine wp_region_held_drew (S:=fun V=>Below w.heap.size w V) (by kernel_rfl) (Zr _ _).drew.drew (fun _=>?_);refine tz 0 39 ?_;refine tz 1 40 ?_;refine tz 2 41 ?_;refine tz 3 42 ?_;refine tz 4 43 ?_;refine tz 5 44 ?_;refine tz 6 45 ?_;refine tz 7 46 ?_;refine tz 8 47 ?_;refine tz 9 48 ?_;refine tz 10 49 ?_;refine tz 11 50 ?_;refine tz 12 51 ?_;refine tz 13 52 ?_;refine tz 14 53 ?_;refine tz 15 54 ?_;refine Zk 16 (fun K hK=>?_);go_simp;refine hK.out _ _ Qaf (fun _=>?_);clear hK K;refine Zk 17 (fun K hK=>?_);go_simp;refine hK.out _ _ Qaf (fun _=>?_);clear hK K;refine Zd ?_;obtain ⟨W2,hW2⟩:∃ W2,W2=(w.alloc (.cells #[.int .i64 v1,.int .i64 v2,.int .i64 (t:Int)] 144)).drew.drew:=⟨_,rfl⟩;have hb2:Below w.heap.size w W2:=by rw [hW2];exact Qaf
   have hbl:Blk W2 w.heap.size 144 #[.int .i64 v1,.int .i64 v2,.int .i64 (t:Int)]:=by rw [hW2];exact Qaz
   have c2:W2.cell? ⟨w.heap.size,2,none⟩=some (.int .i64 (t:Int)):=Zq hbl;have hlt:=hbl.lt;rw [←hW2];have HSX2:=HSX;clear HSX hbl hW2 HY HSX1;have HSX:=Zh (fun V (hV:Below w.heap.size w V∧V.cell? ⟨w.heap.size,2,none⟩=some (.int .i64 (t:Int)))=>And.intro hV.2 (HSX2.out V hV.1))
   go_wp2_with fail
   refine wp_region_held_drew (S:=fun V=>Below w.heap.size w V∧V.cell? ⟨w.heap.size,2,none⟩=some (.int .i64 (t:Int))) (by kernel_rfl) ⟨hb2.drew,c2⟩ (fun hS0=>?_);refine tz 0 55 ?_;refine tz 1 56 ?_;refine tz 2 57 ?_;refine tz 3 58 ?_;refine tz 4 59 ?_;refine tz 5 60 ?_;refine tz 6 61 ?_;refine tz 7 62 ?_;refine tz 8 63 ?_;refine tz 9 64 ?_;refine tz 10 65 ?_;refine tz 11 66 ?_;refine tz 12 67 ?_;refine tz 13 68 ?_;refine tz 14 69 ?_;refine tz 15 70 ?_;refine tz 16 71 ?_;refine tz 17 72 ?_;refine tz 18 73 ?_;refine tz 19 74 ?_;refine tz 20 75 ?_;refine tz 21 76 ?_;refine tz 22 77 ?_;refine tz 23 78 ?_;refine tz 24 79 ?_;refine Zk 25 (fun K hK=>?_);go_simp;with_reducible refine (HTA.out _ hS0.1 trivial).mono ?_
   rintro e w' ⟨z,hz,rfl,hb'⟩;have hb3:Below w.heap.size w w':=hS0.1.trans (hb'.mono hS0.1.size);have c3:w'.cell? ⟨w.heap.size,2,none⟩=some (.int .i64 (t:Int)):=Zc hb' (Zn _) c2;have HZ:=Zh (HTN.out z trivial hz);clear hz;go_simp;refine hK.out _ _ ⟨hb3,c3⟩ (fun _=>?_);clear hK K;refine tz 26 6 ?_;refine Zd ?_
   go_wp2_with fail
   go_ret
   rw [HZ.out];exact ⟨rfl,hb3⟩
 · have e1:((v:Int) != y1)=true:=by simp [hxy]
   go_wp2_with fail
   go_ret
   exact ⟨by rw [show Qal N a b=1152921504606846976 by unfold Qal;rw [hx,hy];simp [hxy]];rfl,Qaf⟩
section
variable {G:Nat→Prop} {g gc gs n m c:Nat} {A:Option Addr} {R:List Nat} {C:List Int} {S:List Nat}
theorem Qba.cut {W:World}(h:Qba W G g A gc gs n m c R C S){L:Nat}(hL:L≤m):Qba (W.setCell ⟨g,0,none⟩ (.slice A L c)) G g A gc gs n L c (R.take L) C S:=by
 have h1:Own W 0 3 1 A L c (Qad (nis (R.take L))):=h.row.front_ hL (by simp [Qad,nis,List.map_take]);refine ⟨?_,h1.far (Qab _ _ _ _) (.inr fun e=>(h.dA g e).1 rfl),h.cs.far_ (fun e=>h.dg.1 e.symm) _,h.ss.far_ (fun e=>h.dg.2.1 e.symm) _,h.dA,h.dg,h.dG,fun b hb=>by simpa [World.setCell] using h.lt b hb,by rw [Yw,h.lr];omega,h.lc,h.ls,h.n0⟩;exact h.blk.set_ 0 _
set_option maxHeartbeats 1000000 in
theorem Qvp (w:World)(h:Qba w G g A gc gs n 0 c R C S) :
 Calls prog 136 #[.pointer (some ⟨g,0,none⟩)] w fun e w'=>e=.returned (.tuple #[.int .i64 0,.int .i64 0,.bool false])∧w=w':=by
 have f0:=h.f0;clear h
 go_enter func136,ntmps136
 go_wp2_with fail
 refine bodyPost_ret (v:=.tuple #[.int .i64 0,.int .i64 0,.bool false]) (by simp [results,results136,go_sem]) rfl ?_;exact ⟨rfl,rfl⟩
set_option maxHeartbeats 2000000 in
theorem Quw (w:World)(L:Nat) (h:Qba w G g A gc gs n (L+1) c R C S) (hp:HpS n R C S) (ho:Ord (at_ R C) (L+1)) (k:Nat) (hk:R[0]?=some k) (x:Int) (hx:C[k]?=some x) :
 Calls prog 136 #[.pointer (some ⟨g,0,none⟩)] w fun e w'=>e=.returned (.tuple #[.int .i64 k,.int .i64 x,.bool true])∧(∃ (R' S':List Nat),Qba w' G g A gc gs n L c R' C S'∧HpS n R' C S'∧Ord (at_ R' C) L∧∀ q,q∈R'↔q∈R∧q≠k)∧Aft G w w':=by
 obtain ⟨gr,hgr,hfr⟩:=h.rowBlk (by omega);subst hgr;have hlr:=h.lr;have hcap:=h.cap;have hn0:=h.n0;have hkn:k<n:=(hp.seat 0 k hk).1
 obtain ⟨b,y,la,lb,lc,ld⟩:=hp.key (i:=L) (by omega);have f0:=h.f0;have r0:=h.rowAt hk;have HSW:=Zh (fun V (hV:Qba V G g (some ⟨gr,0,none⟩) gc gs n (L+1) c R C S)=>(show Calls prog 161 #[.pointer (some ⟨g,0,none⟩),.int .i64 0,.int .i64 L] V _ from Qkg V hV hk la hkn lb))
 have HPP:=Zh (hp.pop hlr hk);have HPO:=Zh (hp.popOrd ho hlr hk);have HH:=Zh h.drew;have i1:((L:Int)+1 == 0)=false:=by simp;omega
 have e1:IntKind.i64.wrap ((L:Int)+1-1)=(L:Int):=by rw [show (L:Int)+1-1=(L:Int) by omega];exact IntWalk.i64_in _ (by omega)
 have hle:=hp.le;clear h hp ho la lc ld
 go_enter func136,ntmps136
 go_wp2_with fail
 refine wp_region_held_drew (S:=fun V=>V.cell? ⟨g,0,none⟩=some (.slice (some ⟨gr,0,none⟩) (L+1) c)∧V.cell? ⟨gr,0,none⟩=some (.int .i64 k)) (by kernel_rfl) ⟨f0,r0⟩ (fun _=>?_);refine tz 0 13 ?_;refine tz 1 14 ?_;refine tz 2 15 ?_;refine tz 3 16 ?_;refine tz 4 17 ?_;refine tz 5 18 ?_;refine tz 6 19 ?_;refine tz 7 20 ?_;refine tz 8 21 ?_;refine tz 9 22 ?_;refine tz 10 23 ?_;refine tz 11 24 ?_;refine tz 12 5 ?_;refine tz 13 6 ?_;refine Zd ?_;clear f0 r0
 go_wp2_with fail
 with_reducible refine (HSW.out _ HH.out).mono ?_
 rintro e w1 ⟨rfl,hw1,ha1⟩;have ha:Aft G w w1:=⟨ha1.kept,ha1.size,fun B hB=>(Zr B w).drew.trans (ha1.bel B hB)⟩;have f0:=hw1.f0;have z0:w1.frozen? ⟨g,0,none⟩=false:=hw1.blk.frozen 0;have hw2:=hw1.cut (L:=L) (by omega);have f2:=hw2.f2;have s2:=hw2.seatAt (i:=k) (Qbl 0 (by rw [hw2.ls];exact hkn));have z2:w1.frozen? ⟨gs,k,none⟩=false:=hw1.ss.frozen k;have hw3:Qba ((w1.setCell ⟨g,0,none⟩ (.slice (some ⟨gr,0,none⟩) L c)).setCell ⟨gs,k,none⟩ (.int .i64 0)) G g (some ⟨gr,0,none⟩) gc gs n L c _ C _:=hw2.setS (i:=k) (k:=0);have HDN:=Zh (Qwr _ hw3 HPP.out.1 HPO.out);have HA3:=Zh ((ha.set hw1.dG.1 (i:=0) (.slice (some ⟨gr,0,none⟩) L c)).set hw1.dG.2.2 (i:=k) (.int .i64 0));have i2:(0:Int)≤(k:Int):=by omega
 have i3:(k:Int)<(n:Int):=by omega
 have i4:(L:Int)≤(c:Int):=by omega
 clear hw1 hw2 hw3 ha ha1 HSW HH
 go_wp2_with fail
 with_reducible refine HDN.out.mono ?_
 rintro e w3 ⟨rfl,R',S',hw3,hp3,ho3,hk3,ha3⟩;have f1:=hw3.f1;have q1:=hw3.costAt hx;have HW4:=Zh hw3.drew;have HA4:=Zh (HA3.out.trans ha3).drew;have HP4:=Zh hp3;have HO4:=Zh ho3;have HK4:=Zh hk3;clear hw3 ha3 hp3 ho3 hk3 HDN HA3 f0 z0 f2 s2 z2
 go_wp2_with fail
 refine wp_region_held_drew (S:=fun V=>V.cell? ⟨g,1,none⟩=some (.slice (some ⟨gc,0,none⟩) n n)∧V.cell? ⟨gc,k,none⟩=some (.int .i64 x)) (by kernel_rfl) ⟨f1,q1⟩ (fun _=>?_);refine tz 0 45 ?_;refine tz 1 46 ?_;refine tz 2 47 ?_;refine tz 3 48 ?_;refine tz 4 49 ?_;refine tz 5 50 ?_;refine tz 6 51 ?_;refine tz 7 52 ?_;refine tz 8 2 ?_;refine tz 9 3 ?_;refine tz 10 4 ?_;refine Zd ?_
 go_wp2_with fail
 refine bodyPost_ret (v:=.tuple #[.int .i64 k,.int .i64 x,.bool true]) (by simp [results,results136,go_sem]) rfl ?_;exact ⟨rfl,⟨R',S',HW4.out,HP4.out,HO4.out,fun q=>(HK4.out q).trans (HPP.out.2.1 q)⟩,HA4.out⟩
theorem hpPop_ok (w:World)(hp:Nat→Option Int)(h:Qdg w G g n hp) :
 Calls prog 136 #[.pointer (some ⟨g,0,none⟩)] w fun e w' =>
  (((∀ q,hp q=none)∧e=.returned (.tuple #[.int .i64 0,.int .i64 0,.bool false])∧Qdg w' G g n hp) ∨
   ∃ k x,k<n∧hp k=some x∧(∀ q z,hp q=some z→x≤z)∧e=.returned (.tuple #[.int .i64 (k:Nat),.int .i64 x,.bool true])∧Qdg w' G g n (fun q=>if q=k then none else hp q))∧Aft G w w':=by
 obtain ⟨A,gc,gs,m,c,R,C,S,hw,hs,ho,hin⟩:=h;have hlr:=hw.lr
 rcases m with _|L
 · refine (Qvp w hw).mono ?_
   rintro e w' ⟨rfl,rfl⟩;obtain rfl:=List.eq_nil_of_length_eq_zero hlr;exact ⟨.inl ⟨fun q=>by rw [hin q];simp [Qrj],rfl,A,gc,gs,0,c,[],C,S,hw,hs,ho,hin⟩,Aft.refl _ _⟩
 · obtain ⟨k,x,hk,hkn,hx,_⟩:=hs.key (i:=0) (by omega)
   refine (Quw w L hw hs ho k hk x hx).mono ?_;rintro e w' ⟨rfl,⟨R',S',k1,k2,k3,k4⟩,ha⟩;have hm:k∈R:=List.mem_iff_getElem?.2 ⟨0,hk⟩;refine ⟨.inr ⟨k,x,hkn,by rw [hin k];unfold Qrj;rw [if_pos hm];exact hx,fun q z hq=>Qty hs (by rw [hlr];exact ho) hk hx ((hin q).symm.trans hq),rfl,A,gc,gs,L,c,R',C,S',k1,k2,k3,fun q=>?_⟩,ha⟩
   show (if q=k then none else hp q)=_
   unfold Qrj
   by_cases e:q=k
   · rw [if_pos e,if_neg (fun h=>((k4 q).1 h).2 e)]
   · rw [if_neg e,hin q]
     unfold Qrj
     by_cases hq:q∈R
     · rw [if_pos hq,if_pos ((k4 q).2 ⟨hq,e⟩)]
     · rw [if_neg hq,if_neg (fun h=>hq ((k4 q).1 h).1)]
set_option maxHeartbeats 1000000 in
theorem Qut (w:World)(hp:Nat→Option Int)(h:Qdg w G g n hp) :
 Calls prog 134 #[.pointer (some ⟨g,0,none⟩)] w fun e w'=>e=.returned (.tuple #[])∧Qdg w' G g n (fun _=>none)∧Aft G w w':=by
 obtain ⟨A,gc,gs,m,c,R,C,S,hw,hs,ho,hin⟩:=h;have hlr:=hw.lr;have hcap:=hw.cap;have hn0:=hw.n0;have hle:=hs.le;have f0:=hw.f0;have HH:=Zh hw;have HS:=Zh hs
 have HNO:=Zh (show ∀ q s,S[q]?=some s→q ∉ R→s=0 from fun q s h1 h2=>by
  rcases s with _|s
  · rfl
  · exact absurd (List.mem_iff_getElem?.2 ⟨s,hs.none_ q s h1⟩) h2)
 clear hw hs ho hin
 go_enter func134,ntmps134
 go_wp2_with fail
 go_loopw [9] (fun x W=>∃ (i:Nat) (S':List Nat),x=.int .i64 i∧i≤m∧Qba W G g A gc gs n m c R C S'∧(∀ q s,S'[q]?=some s→s=0∨(S[q]?=some s∧q ∉ R.take i))∧Aft G w W) (fun x _=>m-(intOf x).toNat)
 case atStart=>exact ⟨0,S,by go_num,by omega,HH.out,fun q s h1=>.inr ⟨h1,by simp⟩,Aft.refl _ _⟩
 case round =>
  obtain ⟨i,S',rfl,him,hw,hz,ha⟩:=hrel
  by_cases hlt:i<m
  · obtain ⟨gr,hgr,hfr⟩:=hw.rowBlk (by omega)
    subst hgr;obtain ⟨k,hk⟩:∃ k,R[i]?=some k:=⟨_,Qbl 0 (by omega)⟩;have hkn:=(HS.out.seat i k hk).1;have r0:=hw.rowAt hk;have f2:=hw.f2;have s0:=hw.seatAt (i:=k) (Qbl 0 (by rw [hw.ls];exact hkn));have z0:wr.frozen? ⟨gs,k,none⟩=false:=hw.ss.frozen k;have hw2:Qba (wr.setCell ⟨gs,k,none⟩ (.int .i64 0)) G g (some ⟨gr,0,none⟩) gc gs n m c R C (S'.set k 0):=hw.setS (i:=k) (k:=0);have HW2:=Zh hw2;have HA2:=Zh (ha.set hw.dG.2.2 (i:=k) (.int .i64 0));have HZ:=Zh hz;have i1:(0:Int)≤(i:Int):=by omega
    have i2:(i:Int)<(m:Int):=by omega
    have i3:(0:Int)≤(k:Int):=by omega
    have i4:(k:Int)<(n:Int):=by omega
    have hls:=hw.ls;clear hw hz ha hw2
    go_wp2_with fail
    go_roundw
    case rel =>
     refine ⟨i+1,S'.set k 0,by go_num,by omega,HW2.out,fun q s h1=>?_,HA2.out⟩
     by_cases e:k=q
     · subst e
       rw [Yg (by omega)] at h1;exact .inl (Yv h1).symm
     · rw [Yh e] at h1
       rcases HZ.out q s h1 with h2|⟨h2,h3⟩
       · exact .inl h2
       · refine .inr ⟨h2,fun h4=>?_⟩
         rw [List.take_add_one,hk] at h4;simp only [Option.toList_some,List.mem_append,List.mem_singleton] at h4;exact h4.elim h3 (fun e2=>e e2.symm)
    case measure=>simp [intOf];omega
  · obtain rfl:i=m:=by omega
    have f0:=hw.f0;have z0:wr.frozen? ⟨g,0,none⟩=false:=hw.blk.frozen 0;have hw2:=hw.cut (L:=0) (by omega);have HW2:=Zh hw2;have HA2:=Zh (ha.set hw.dG.1 (i:=0) (.slice A 0 c));have HZ:=Zh hz;clear hw hz ha hw2
    go_wp2_with fail
    go_end0
    refine ⟨rfl,⟨A,gc,gs,0,c,[],C,S',HW2.out,⟨HW2.out.lc,HW2.out.ls,fun q k h1=>by simp at h1,fun k q h1=>?_⟩,fun q _ h1=>by omega,fun q=>by simp [Qrj]⟩,HA2.out⟩
    rcases HZ.out k _ h1 with h2|⟨h2,h3⟩
    · omega
    · rw [Ye (by omega)] at h3
      exact absurd (HNO.out k _ h2 h3) (by omega)
theorem Qfa (n:Nat)(hn:n≤1000000000)(W:World):(Instr.makeSlice 30 (.int .i64 (n:Int)) (.int .i64 (n:Int))).run prog W=.ok (.slice (some ⟨W.heap.size,0,none⟩) n n) (W.alloc (.cells (Qbd (.int .i64 0) n) 2)) :=
 Qeb (P:=prog) 30 2 (.int .i64 0) 8 Qir underlying30 rfl n (by omega) (by omega) .i64 .i64 W
theorem nis_zero (n:Nat):nis (List.replicate n 0)=List.replicate n 0:=by simp [nis]
theorem Qdg.made {W w:World}{n g gc gs:Nat} (hb:Blk W g 269 #[.slice none 0 0,.slice (some ⟨gc,0,none⟩) n n,.slice (some ⟨gs,0,none⟩) n n]) (hc:Blk W gc 2 (Qbd (.int .i64 0) n)) (hs:Blk W gs 3 (Qbd (.int .i64 0) n))
 (h1:g≠gc∧g≠gs∧gc≠gs) (h2:w.heap.size≤g∧w.heap.size≤gc∧w.heap.size≤gs) (hz:w.heap.size≤W.heap.size) (hn:n≤16384):Qdg W (fun b=>b<w.heap.size) g n (fun _=>none):=by
 refine ⟨none,gc,gs,0,0,[],List.replicate n 0,List.replicate n 0,⟨hb,Own.nil _ _ _ _,by rw [←Qdh];exact hc,by rw [nis_zero,←Qdh];exact hs,fun b e=>by simp [Qaa] at e,h1,⟨by omega,by omega,by omega⟩,fun b hb=>by omega,rfl,by simp,by simp,hn⟩,⟨by simp,by simp,fun i k h=>by simp at h,fun k i h=>?_⟩,fun i _ h=>by omega,fun k=>by simp [Qrj]⟩;have:=(Zs h).2;simp at this
set_option maxHeartbeats 1000000 in
theorem hpNew_ok (w:World)(n:Nat)(hn:n≤16384) :
 Calls prog 133 #[.int .i64 n] w fun e w'=>∃ g,e=.returned (.pointer (some ⟨g,0,none⟩))∧Qdg w' (fun b=>b<w.heap.size) g n (fun _=>none)∧Below w.heap.size w w':=by
 have hmk:=Qdx n (by omega);have hmc:=Qfa n (by omega);have e1:max (n:Int) 0=(n:Int):=by omega
 have e2:min (n:Int) 16384=(n:Int):=by omega
 go_enter func133,ntmps133
 go_wp2_with fail
 refine wp_region_held_drew (S:=fun V=>Below w.heap.size w V) (by kernel_rfl) (Zr _ _).drew (fun _=>?_);refine tz 0 6 ?_;refine tz 2 8 ?_;refine wpAnyH_ready (rs:=[1,3]) (by kernel_rfl) (by simp) ?_;refine AllReadyH.cons (o:=_) rfl (fun K hK=>?_) (AllReadyH.cons (o:=_) rfl (fun K hK=>?_) AllReadyH.nil)
 · go_simp
   refine hK.out _ _ Qaf (fun _=>?_);clear hK K;refine Zk 3 (fun K hK=>?_);go_simp;refine hK.out _ _ Qaf (fun _=>?_);clear hK K;refine tz 4 10 ?_;refine Zk 5 (fun K hK=>?_);go_simp;refine hK.out _ _ Qaf (fun _=>?_);clear hK K;refine tz 6 2 ?_;refine Zd ?_
   go_wp2_with fail
   go_ret
   refine ⟨_,rfl,Qdg.made (gc:=w.heap.size) (gs:=w.heap.size+1) Qaz Qaz Qaz ?_ ?_ ?_ hn,Qaf⟩
   all_goals (simp;try omega)
 · go_simp
   refine hK.out _ _ Qaf (fun _=>?_);clear hK K;refine Zk 1 (fun K hK=>?_);go_simp;refine hK.out _ _ Qaf (fun _=>?_);clear hK K;refine tz 4 10 ?_;refine Zk 5 (fun K hK=>?_);go_simp;refine hK.out _ _ Qaf (fun _=>?_);clear hK K;refine tz 6 2 ?_;refine Zd ?_
   go_wp2_with fail
   go_ret
   refine ⟨_,rfl,Qdg.made (gs:=w.heap.size) (gc:=w.heap.size+1) Qaz Qaz Qaz ?_ ?_ ?_ hn,Qaf⟩
   all_goals (simp;try omega)
end
theorem Qdg.more {W W':World}{G G':Nat→Prop}{g n:Nat}{hp:Nat→Option Int}(h:Qdg W G g n hp)(hb:Below W.heap.size W W') (hG:∀ b,G' b→b<W'.heap.size∧(G b∨W.heap.size≤b)):Qdg W' G' g n hp:=by
 obtain ⟨A,gc,gs,m,c,R,C,S,h1,h2⟩:=h;exact ⟨A,gc,gs,m,c,R,C,S,h1.more hb hG,h2⟩
theorem Qdg.less {W:World}{G G':Nat→Prop}{g n:Nat}{hp:Nat→Option Int}(h:Qdg W G g n hp)(hG:∀ b,G' b→G b):Qdg W G' g n hp:=by
 obtain ⟨A,gc,gs,m,c,R,C,S,h1,h2⟩:=h;exact ⟨A,gc,gs,m,c,R,C,S,h1.more (Zr _ _) (fun b hb=>⟨h1.lt b (hG b hb),.inl (hG b hb)⟩),h2⟩
theorem Qdg.lt {W:World}{G:Nat→Prop}{g n:Nat}{hp:Nat→Option Int}(h:Qdg W G g n hp):∀ b,G b→b<W.heap.size:=by
 obtain ⟨A,gc,gs,m,c,R,C,S,h1,h2⟩:=h;exact h1.lt
theorem Qdg.set {W:World}{G:Nat→Prop}{g n k i:Nat}{hp:Nat→Option Int}(h:Qdg W G g n hp)(hk:G k)(v:Value):Qdg (W.setCell ⟨k,i,none⟩ v) G g n hp:=by
 obtain ⟨A,gc,gs,m,c,R,C,S,h1,h2⟩:=h;have hn:∀ b,¬G b→b≠k:=fun b hb e=>hb (e▸hk)
 exact ⟨A,gc,gs,m,c,R,C,S,⟨h1.blk.far_ (hn _ h1.dG.1) _,h1.row.far (Qab _ _ _ _) (.inr fun e=>(h1.dA k e).2.2.2 hk),h1.cs.far_ (hn _ h1.dG.2.1) _,h1.ss.far_ (hn _ h1.dG.2.2) _,h1.dA,h1.dg,h1.dG,fun b hb=>by simpa [World.setCell] using h1.lt b hb,h1.lr,h1.lc,h1.ls,h1.n0⟩,h2⟩
theorem Le.kept {K:Nat→Prop}{W0 W:World}(h:Qax K W0 W):Le (msk W0 K) W:=(Qax.msk h).trans (Qbh _ _)
theorem Aft.mono {G G':Nat→Prop}{a b:World}(h:Aft G a b)(hs:∀ b,G' b→G b):Aft G' a b:=⟨h.kept.mono hs,h.size,fun B hB=>h.bel B (fun b hb=>hs b (hB b hb))⟩
theorem nis_idx (f:Tri→Int)(l:List Tri)(v:Int):∃ bs:List Nat,nis bs=idx f l v∧∀ b∈bs,∃ y,l[b]?=some y∧f y=v:=by
 refine ⟨(idx f l v).map Int.toNat,?_,fun b hb=>?_⟩
 · unfold nis
   rw [List.map_map];refine (List.map_congr_left (g:=id) fun z hz=>?_).trans (List.map_id _);obtain ⟨i,a,rfl,_⟩:=Qiv.1 hz;simp
 · obtain ⟨z,hz,rfl⟩:=List.mem_map.1 hb
   obtain ⟨i,a,rfl,h1,h2⟩:=Qiv.1 hz;exact ⟨a,by simpa using h1,h2⟩
end Go.Proofs.YthoagdpakddbdaaGreatDoor
namespace Go.Proofs.YthoagdpakddbdaaGreatDoor
/-! Least costs over steps; plain. -/
abbrev Qbx:=Nat→Nat→Int→Prop
inductive Rch (St:Qbx) (s:Nat):Nat→Int→Prop
 | start:Rch St s s 0
 | step {p q:Nat} {c d:Int}:Rch St s p c→St p q d→Rch St s q (c+d)
theorem Rch.pos {St:Qbx}(h0:∀ p q d,St p q d→0≤d){s p:Nat}{c:Int}(h:Rch St s p c):0≤c:=by
 induction h with
 | start=>exact Int.le_refl _
 | step _ h2 ih=>have:=h0 _ _ _ h2;omega
theorem Rch.trans {St:Qbx}{s p q:Nat}{c d:Int}(h:Rch St s p c)(g:Rch St p q d):Rch St s q (c+d):=by
 induction g with
 | start=>simpa using h
 | step _ h2 ih=>rw [←Int.add_assoc];exact ih.step h2
theorem Rch.mono {St St':Qbx}(hm:∀ p q d,St p q d→St' p q d){s p:Nat}{c:Int}(h:Rch St s p c):Rch St' s p c:=by
 induction h with
 | start=>exact .start
 | step _ h2 ih=>exact ih.step (hm _ _ _ h2)
def Qsg (St Out:Qbx)(s k:Nat)(v:Int):Prop:=∃ p c d,Rch St s p c∧Out p k d∧v=c+d
def INF:Int:=1152921504606846976
def Lst (P:Int→Prop)(v:Int):Prop:=(P v∧∀ c,P c→v≤c)∨(v=INF∧∀ c,¬P c)
theorem Lst.uniq {P:Int→Prop}{a b:Int}(h:Lst P a)(g:Lst P b):a=b:=by
 rcases h with ⟨h1,h2⟩|⟨h1,h2⟩ <;> rcases g with ⟨g1,g2⟩|⟨g1,g2⟩
 · have:=h2 _ g1;have:=g2 _ h1;omega
 · exact absurd h1 (g2 _)
 · exact absurd g1 (h2 _)
 · rw [h1,g1]
theorem Lst.conv {P Q:Int→Prop}{v:Int}(h:Lst P v)(h1:∀ c,P c→∃ d,Q d∧d≤c)(h2:∀ c,Q c→∃ d,P d∧d≤c):Lst Q v:=by
 rcases h with ⟨hv,hm⟩|⟨hv,hn⟩
 · left
   obtain ⟨d,hd,hle⟩:=h1 v hv;obtain ⟨e,he,hle2⟩:=h2 d hd;have h3:=hm e he;have:d=v:=by omega
   subst this;refine ⟨hd,fun c hc=>?_⟩;obtain ⟨e,he,hle⟩:=h2 c hc;have:=hm e he;omega
 · right
   refine ⟨hv,fun c hc=>?_⟩;obtain ⟨e,he,_⟩:=h2 c hc;exact hn e he
/-! Cells within cells: K p: the kid in which one stands behind p; In: the steps within a kid. -/
structure Qkw (St Out:Qbx) (SK:Qbx) (E:Nat→Nat→Int→Prop) (CSt COut:Qbx) (ins:Nat→Prop) (W:Nat→Int) (T:Nat→Nat→Int→Prop):Prop where
 /-- a step within a kid is a step; what is no such step goes out of the kid, by an arc that is an entry's end -/
 sub:∀ p q d,SK p q d→St p q d
 split:∀ p q d,St p q d→SK p q d∨(ins q∧∃ t,T p q t∧d=t+W q∧0≤W q)
 join:∀ a p q c t,ins a→Rch SK a p c→T p q t→(∃ d,St p q d∧¬SK p q d)→St p q (t+W q)
 /-- coarse steps -/
 cst:∀ a q d,CSt a q d→ins a∧ins q∧∃ v,E a q v∧d=v+W q∧(∃ p c t,Rch SK a p c∧T p q t∧v=c+t∧St p q (t+W q))
 cst2:∀ a p q c t,ins a→Rch SK a p c→T p q t→ins q→St p q (t+W q)→¬SK p q (t+W q)→∃ d,CSt a q d∧d≤c+t+W q
 cout:∀ a k d,COut a k d→∃ p c t,Rch SK a p c∧Out p k t∧d=c+t
 cout2:∀ a p k c t,ins a→Rch SK a p c→Out p k t→∃ d,COut a k d∧d≤c+t
theorem Qkw.up {St Out SK:Qbx}{E:Nat→Nat→Int→Prop}{CSt COut:Qbx}{ins:Nat→Prop}{W:Nat→Int}{T:Nat→Nat→Int→Prop}(h:Qkw St Out SK E CSt COut ins W T)
 {s q:Nat} {c:Int} (hr:Rch CSt s q c):Rch St s q c:=by
 induction hr with
 | start=>exact .start
 | step h1 h2 ih =>
  obtain ⟨_,_,v,_,rfl,p,c',t,h3,h4,rfl,h5⟩:=h.cst _ _ _ h2;have:=(ih.trans (h3.mono h.sub)).step h5;rw [show ∀ a b c d:Int,a+b+(c+d)=a+(b+c+d) from fun a b c d=>by omega] at this
  exact this
theorem Qkw.down {St Out SK:Qbx}{E:Nat→Nat→Int→Prop}{CSt COut:Qbx}{ins:Nat→Prop}{W:Nat→Int}{T:Nat→Nat→Int→Prop}(h:Qkw St Out SK E CSt COut ins W T)
 (hsk:∀ p q d,St p q d→SK p q d∨¬SK p q d) {s q:Nat} {c:Int} (hs:ins s) (hr:Rch St s q c):∃ a c1 c2,ins a∧Rch CSt s a c1∧Rch SK a q c2∧c1+c2≤c:=by
 induction hr with
 | start=>exact ⟨s,0,0,hs,.start,.start,by omega⟩
 | @step p q c d h1 h2 ih =>
  obtain ⟨a,c1,c2,ha,g1,g2,g3⟩:=ih
  rcases hsk _ _ _ h2 with hk|hk
  · exact ⟨a,c1,c2+d,ha,g1,g2.step hk,by omega⟩
  · rcases h.split _ _ _ h2 with hk'|⟨hq,t,ht,rfl,hw⟩
    · exact absurd hk' hk
    · obtain ⟨e,he,hle⟩:=h.cst2 a p q c2 t ha g2 ht hq h2 hk
      exact ⟨q,c1+e,0,hq,g1.step he,.start,by omega⟩
theorem Qkw.same {St Out SK:Qbx}{E:Nat→Nat→Int→Prop}{CSt COut:Qbx}{ins:Nat→Prop}{W:Nat→Int}{T:Nat→Nat→Int→Prop}(h:Qkw St Out SK E CSt COut ins W T)
 (hsk:∀ p q d,St p q d→SK p q d∨¬SK p q d) {s k:Nat} {v:Int} (hs:ins s) (hl:Lst (Qsg CSt COut s k) v):Lst (Qsg St Out s k) v:=by
 refine hl.conv (fun c hc=>?_) (fun c hc=>?_)
 · obtain ⟨a,c1,d,h1,h2,rfl⟩:=hc
   obtain ⟨p,c2,t,h3,h4,rfl⟩:=h.cout _ _ _ h2;exact ⟨_,⟨p,c1+c2,t,(h.up h1).trans (h3.mono h.sub),h4,rfl⟩,by omega⟩
 · obtain ⟨p,c1,t,h1,h2,rfl⟩:=hc
   obtain ⟨a,e1,e2,ha,g1,g2,g3⟩:=h.down hsk hs h1;obtain ⟨d,hd,hle⟩:=h.cout2 a p k e2 t ha g2 h2;exact ⟨_,⟨a,e1,d,g1,hd,rfl⟩,by omega⟩
/-! The least first. -/
structure Dij (St:Qbx) (s:Nat) (dn:Nat→Option Int) (hp:Nat→Option Int):Prop where
 dr:∀ p c,dn p=some c→Rch St s p c
 dm:∀ p c,dn p=some c→∀ e,Rch St s p e→c≤e
 hr:∀ p c,hp p=some c→Rch St s p c
 off:∀ p c,dn p=some c→hp p=none
 on:∀ p c q d,dn p=some c→St p q d→(∃ e,dn q=some e∧e≤c+d)∨(∃ e,hp q=some e∧e≤c+d)
 st:dn s≠none∨∃ e,hp s=some e∧e≤0
theorem Dij.wait {St:Qbx}{s:Nat}{dn hp:Nat→Option Int}(h:Dij St s dn hp)(h0:∀ p q d,St p q d→0≤d){p:Nat}{c:Int}(hr:Rch St s p c):(∃ e,dn p=some e∧e≤c)∨∃ q e,hp q=some e∧e≤c:=by
 induction hr with
 | start =>
  rcases h.st with h1|⟨e,h1,h2⟩
  · left
    cases hd:dn s with
    | none=>exact absurd hd h1
    | some e=>exact ⟨e,rfl,h.dm s e hd 0 .start⟩
  · exact .inr ⟨s,e,h1,h2⟩
 | @step p q c d h1 h2 ih =>
  have hd:=h0 _ _ _ h2
  rcases ih with ⟨e,h3,h4⟩|⟨r,e,h3,h4⟩
  · rcases h.on p e q d h3 h2 with ⟨f,h5,h6⟩|⟨f,h5,h6⟩
    · exact .inl ⟨f,h5,by omega⟩
    · exact .inr ⟨q,f,h5,by omega⟩
  · exact .inr ⟨r,e,h3,by omega⟩
theorem Dij.least {St:Qbx}{s:Nat}{dn hp:Nat→Option Int}(h:Dij St s dn hp)(h0:∀ p q d,St p q d→0≤d){p:Nat}{c:Int}(hp1:hp p=some c)(hm:∀ q e,hp q=some e→c≤e):∀ e,Rch St s p e→c≤e:=by
 intro e hr
 rcases h.wait h0 hr with ⟨f,h1,_⟩|⟨q,f,h1,h2⟩
 · have:=h.off p f h1
   rw [hp1] at this
   cases this
 · have:=hm q f h1
   omega
theorem Dij.all {St:Qbx}{s:Nat}{dn hp:Nat→Option Int}(h:Dij St s dn hp)(h0:∀ p q d,St p q d→0≤d)(he:∀ q,hp q=none){p:Nat}{c:Int}(hr:Rch St s p c):∃ e,dn p=some e∧e≤c:=by
 rcases h.wait h0 hr with h1|⟨q,e,h1,_⟩
 · exact h1
 · rw [he q] at h1;cases h1
structure Qwc (St:Qbx) (s:Nat) (dn hp:Nat→Option Int) (p:Nat) (c:Int) (Gone:Nat→Int→Prop):Prop where
 dr:∀ q e,dn q=some e→Rch St s q e
 dm:∀ q e,dn q=some e→∀ f,Rch St s q f→e≤f
 hr:∀ q e,hp q=some e→Rch St s q e
 off:∀ q e,dn q=some e→hp q=none
 on:∀ q e r d,dn q=some e→St q r d→(q=p∧¬Gone r d)∨(∃ f,dn r=some f∧f≤e+d)∨(∃ f,hp r=some f∧f≤e+d)
 st:dn s≠none∨∃ e,hp s=some e∧e≤0
 at_:dn p=some c
theorem Dij.take {St:Qbx}{s:Nat}{dn hp:Nat→Option Int}(h:Dij St s dn hp)(h0:∀ p q d,St p q d→0≤d){p:Nat}{c:Int}(hp1:hp p=some c)(hm:∀ q e,hp q=some e→c≤e) :
 Qwc St s (fun q=>if q=p then some c else dn q) (fun q=>if q=p then none else hp q) p c (fun _ _=>False) where
 dr:=fun q e he=>by
  by_cases hq:q=p
  · subst hq;simp at he;subst he;exact h.hr q c hp1
  · simp [hq] at he;exact h.dr q e he
 dm:=fun q e he f hf=>by
  by_cases hq:q=p
  · subst hq;simp at he;subst he;exact h.least h0 hp1 hm f hf
  · simp [hq] at he;exact h.dm q e he f hf
 hr:=fun q e he=>by
  by_cases hq:q=p
  · simp [hq] at he
  · simp [hq] at he;exact h.hr q e he
 off:=fun q e he=>by
  by_cases hq:q=p
  · simp [hq]
  · simp [hq] at he ⊢;exact h.off q e he
 on:=fun q e r d he hs=>by
  by_cases hq:q=p
  · exact .inl ⟨hq,fun h=>h⟩
  · simp [hq] at he
    right
    rcases h.on q e r d he hs with ⟨f,h1,h2⟩|⟨f,h1,h2⟩
    · by_cases hr:r=p
      · subst hr
        have:=h.off r f h1;rw [hp1] at this
        cases this
      · exact .inl ⟨f,by simp [hr,h1],h2⟩
    · by_cases hr:r=p
      · subst hr
        rw [hp1] at h1
        cases h1
        exact .inl ⟨c,by simp,h2⟩
      · exact .inr ⟨f,by simp [hr,h1],h2⟩
 st:=by
  by_cases hs:s=p
  · left;simp [hs]
  · rcases h.st with h1|⟨e,h1,h2⟩
    · left;simpa [hs] using h1
    · right;exact ⟨e,by simp [hs,h1],h2⟩
 at_:=by simp
theorem Qwc.put {St:Qbx}{s:Nat}{dn hp hp':Nat→Option Int}{p q:Nat}{c d:Int}{Gone:Nat→Int→Prop}(h:Qwc St s dn hp p c Gone)(hs:St p q d)
 (hput:(dn q≠none∧(∀ e,dn q=some e→e≤c+d)∧hp'=hp)∨(dn q=none∧(∀ r,r≠q→hp' r=hp r)∧((∃ e,hp q=some e∧e≤c+d∧hp' q=some e)∨((∀ e,hp q=some e→c+d≤e)∧hp' q=some (c+d))))) :
 Qwc St s dn hp' p c (fun r e=>Gone r e∨(r=q∧e=d)) where
 dr:=h.dr
 dm:=h.dm
 hr:=fun r e he=>by
  rcases hput with ⟨_,_,rfl⟩|⟨_,h2,h3⟩
  · exact h.hr r e he
  · by_cases hr:r=q
    · subst hr
      rcases h3 with ⟨f,h4,_,h5⟩|⟨_,h5⟩
      · rw [h5] at he;cases he;exact h.hr r _ h4
      · rw [h5] at he;cases he;exact (h.dr p c h.at_).step hs
    · rw [h2 r hr] at he;exact h.hr r e he
 off:=fun r e he=>by
  rcases hput with ⟨_,_,rfl⟩|⟨h1,h2,_⟩
  · exact h.off r e he
  · by_cases hr:r=q
    · subst hr;rw [h1] at he;cases he
    · rw [h2 r hr];exact h.off r e he
 on:=fun r e t f he hst=>by
  have key:∀ g,(∃ x,hp t=some x∧x≤g)→∃ x,hp' t=some x∧x≤g:=fun g ⟨x,h1,h2⟩=>by
   rcases hput with ⟨_,_,rfl⟩|⟨_,h4,h5⟩
   · exact ⟨x,h1,h2⟩
   · by_cases ht:t=q
     · subst ht
       rcases h5 with ⟨y,h6,_,h7⟩|⟨h6,h7⟩
       · rw [h1] at h6;cases h6;exact ⟨x,h7,h2⟩
       · exact ⟨c+d,h7,by have:=h6 x h1;omega⟩
     · exact ⟨x,by rw [h4 t ht];exact h1,h2⟩
  rcases h.on r e t f he hst with ⟨h1,h2⟩|h1|h1
  · by_cases hg:t=q∧f=d
    · obtain ⟨rfl,rfl⟩:=hg
      subst h1;rw [h.at_] at he
      cases he
      right
      rcases hput with ⟨h3,h4,rfl⟩|⟨h3,h4,h5⟩
      · left
        cases hd:dn t with
        | none=>exact absurd hd h3
        | some x=>exact ⟨x,rfl,h4 x hd⟩
      · right
        rcases h5 with ⟨y,h6,h7,h8⟩|⟨_,h8⟩
        · exact ⟨y,h8,h7⟩
        · exact ⟨_,h8,Int.le_refl _⟩
    · exact .inl ⟨h1,fun hx=>hx.elim h2 hg⟩
  · exact .inr (.inl h1)
  · exact .inr (.inr (key _ h1))
 st:=by
  rcases h.st with h1|⟨e,h1,h2⟩
  · exact .inl h1
  · right
    rcases hput with ⟨_,_,rfl⟩|⟨_,h4,h5⟩
    · exact ⟨e,h1,h2⟩
    · by_cases ht:s=q
      · subst ht
        rcases h5 with ⟨y,h6,_,h7⟩|⟨h6,h7⟩
        · rw [h1] at h6;cases h6;exact ⟨e,h7,h2⟩
        · exact ⟨c+d,h7,by have:=h6 e h1;omega⟩
      · exact ⟨e,by rw [h4 s ht];exact h1,h2⟩
 at_:=h.at_
theorem Qwc.done {St:Qbx}{s:Nat}{dn hp:Nat→Option Int}{p:Nat}{c:Int}{Gone:Nat→Int→Prop}(h:Qwc St s dn hp p c Gone)(hg:∀ q d,St p q d→Gone q d):Dij St s dn hp :=
 ⟨h.dr,h.dm,h.hr,h.off,fun q e r d h1 h2=>by
  rcases h.on q e r d h1 h2 with ⟨h3,h4⟩|h3|h3
  · subst h3;exact absurd (hg r d h2) h4
  · exact .inl h3
  · exact .inr h3,h.st⟩
structure OutB (Out:Qbx) (dn:Nat→Option Int) (k:Nat) (b:Int) (Extra:Int→Prop):Prop where
 lo:∀ p c d,dn p=some c→Out p k d→¬Extra (c+d)→b≤c+d
 hit:b=INF∨∃ p c d,dn p=some c∧Out p k d∧b=c+d
theorem OutB.least {St Out:Qbx}{s k:Nat}{dn hp:Nat→Option Int}{b:Int}(h:Dij St s dn hp)(h0:∀ p q d,St p q d→0≤d)(he:∀ q,hp q=none) (hb:OutB Out dn k b (fun _=>False)) (hlt:∀ p c d,dn p=some c→Out p k d→c+d<INF):Lst (Qsg St Out s k) b:=by
 rcases hb.hit with h1|⟨p,c,d,h1,h2,h3⟩
 · right
   refine ⟨h1,fun v ⟨p,c,d,h2,h3,h4⟩=>?_⟩;obtain ⟨e,h5,_⟩:=h.all h0 he h2;have:=hb.lo p e d h5 h3 (fun h=>h);have:=hlt p e d h5 h3;omega
 · left
   refine ⟨⟨p,c,d,h.dr p c h1,h2,h3⟩,fun v ⟨q,e,f,h4,h5,h6⟩=>?_⟩;obtain ⟨x,h7,h8⟩:=h.all h0 he h4;have:=hb.lo q x f h7 h5 (fun h=>h);omega
end Go.Proofs.YthoagdpakddbdaaGreatDoor
namespace Go.Proofs.YthoagdpakddbdaaGreatDoor
open Go.RowKit Go.Proofs.Tryz
theorem Qwc.gone {St:Qbx}{s:Nat}{dn hp:Nat→Option Int}{p:Nat}{c:Int}{Gone Gone':Nat→Int→Prop}(h:Qwc St s dn hp p c Gone)(hg:∀ r d,St p r d→Gone' r d→Gone r d):Qwc St s dn hp p c Gone' :=
 ⟨h.dr,h.dm,h.hr,h.off,fun q e r d h1 h2=>by
  rcases h.on q e r d h1 h2 with ⟨h3,h4⟩|h3
  · subst h3;exact .inl ⟨rfl,fun h5=>h4 (hg r d h2 h5)⟩
  · exact .inr h3,h.st,h.at_⟩
def StN (N:Qai)(mk:List Bool)(s na:Nat):Qbx:=fun a b d=>∃ y,N.ar[b]?=some y∧Qal N (if a=na then s else a) b≠1152921504606846976∧y.2.2≠1152921504606846976 ∧
 mk.getD y.1.toNat false=true∧mk.getD y.2.1.toNat false=true∧d=Qal N (if a=na then s else a) b+y.2.2
attribute [local go_sem ↓] Go.wp_at_zero Go.wp_at_succ
theorem Qgu {u:Int}(h:wOk u=true):u=1152921504606846976∨(0≤u∧u≤2147483648):=by
 unfold wOk at h;simp only [Bool.or_eq_true,Bool.and_eq_true,decide_eq_true_eq] at h;omega
theorem getD_or (l:List Int)(k:Nat)(d:Int):l.getD k d=d∨l.getD k d∈l:=by
 rcases Nat.lt_or_ge k l.length with h|h
 · exact .inr (Zm (Qbl d h))
 · exact .inl (by rw [Ya,Yd h];rfl)
theorem Qdu {N:Qai}(h:Qav N)(a b:Nat):Qal N a b=1152921504606846976∨(0≤Qal N a b∧Qal N a b≤2147483648):=by
 unfold Qal
 split
 · split
   · split
     · split
       · rename_i t ht
         rcases getD_or t.costs ((Qfg N.ar a _).1.toNat*t.outs.toNat+(Qfg N.ar b _).2.toNat) 1152921504606846976 with h1|h1
         · exact .inl h1
         · exact Qgu ((h.tabs t (Zm ht)).ok _ h1)
       · exact .inl rfl
     · exact .inl rfl
   · exact .inl rfl
 · exact .inl rfl
end Go.Proofs.YthoagdpakddbdaaGreatDoor
namespace Go.Proofs.YthoagdpakddbdaaGreatDoor
def Qcw (l:List Int)(c:Int):List Bool:=l.map (fun z=>z == c)
theorem Qhy (l:List Int)(c:Int):(Qcw l c).length=l.length:=by simp [Qcw]
theorem Qwv {l:List Int}{c z:Int}{i n:Nat} (hz:l[i]?=some z) (hn:l.length=n):((Qcw l c).take i ++List.replicate (n-i) false).set i (z == c)=(Qcw l c).take (i+1) ++List.replicate (n-(i+1)) false:=by
 have hi:=(Zs hz).1;have hl:((Qcw l c).take i).length=i:=by rw [Yw,Qhy];omega
 have e:(Qcw l c)[i]?=some (z == c):=by unfold Qcw;rw [Yt,hz];rfl
 rw [List.set_append_right _ _ (by rw [hl];exact Zn _),hl,Yy,Yf (by rw [Qhy];exact hi),(Zs e).2];obtain ⟨m,hm⟩:∃ m,n-i=m+1:=⟨n-i-1,by omega⟩;rw [hm,show n-(i+1)=m by omega]
 simp [List.replicate_succ]
def InK (St:Qbx)(s:Nat)(D:Int)(k q:Nat):Prop:=∃ e,Rch St s q e∧e≤(k:Int)*D
theorem InK.mono {St:Qbx}{s:Nat}{D:Int}(hD:0≤D){k q:Nat}(h:InK St s D k q):InK St s D (k+1) q:=by
 obtain ⟨e,h1,h2⟩:=h;refine ⟨e,h1,?_⟩
 push_cast
 rw [Int.add_mul,Int.one_mul];omega
theorem Qjz {α:Type}{p q:α→Bool}:∀ {l:List α},(∀ x∈l,p x=true→q x=true)→(∃ x∈l,p x=false∧q x=true)→l.countP p<l.countP q
 | [],_,h=>by obtain ⟨x,hx,_⟩:=h;cases hx
 | y::l,h1,h2=>by
  have hle:l.countP p≤l.countP q:=List.countP_mono_left (fun x hx=>h1 x (by simp [hx]))
  by_cases hy:p y=true
  · have hq:=h1 y (by simp) hy
    obtain ⟨x,hx,hp,hx2⟩:=h2
    rcases List.mem_cons.1 hx with rfl|hx
    · rw [hy] at hp;cases hp
    · have:=Qjz (fun z hz=>h1 z (by simp [hz])) ⟨x,hx,hp,hx2⟩
      simp only [List.countP_cons,hy,hq,if_pos];omega
  · have hy':p y=false:=by simpa using hy
    by_cases hq:q y=true
    · simp only [List.countP_cons,hy',hq]
      simp;omega
    · obtain ⟨x,hx,hp,hx2⟩:=h2
      rcases List.mem_cons.1 hx with rfl|hx
      · exact absurd hx2 hq
      · have:=Qjz (fun z hz=>h1 z (by simp [hz])) ⟨x,hx,hp,hx2⟩
        have hq':q y=false:=by simpa using hq
        simp only [List.countP_cons,hy',hq']
        simpa using this
open Classical in
theorem InK.stable (St:Qbx)(s:Nat){D:Int}(hD:0≤D)(n:Nat):∃ k,k≤n∧∀ q,q<n→InK St s D (k+1) q→InK St s D k q:=by
 apply Classical.byContradiction
 intro hno
 have hstep:∀ k,k≤n→(List.range n).countP (fun q=>decide (InK St s D k q))<(List.range n).countP (fun q=>decide (InK St s D (k+1) q)):=fun k hk=>by
  have h1:¬∀ q,q<n→InK St s D (k+1) q→InK St s D k q:=fun h=>hno ⟨k,hk,h⟩
  have ⟨q,h2⟩:=Classical.not_forall.1 h1;have ⟨hq,h3⟩:=Classical.not_imp.1 h2;have ⟨h4,h5⟩:=Classical.not_imp.1 h3;refine Qjz (fun x _ hx=>?_) ⟨q,by simpa using hq,by simpa using h5,by simpa using h4⟩;have:=InK.mono hD (of_decide_eq_true hx)
  simpa using this
 have hall:∀ k,k≤n+1→k≤(List.range n).countP (fun q=>decide (InK St s D k q)):=fun k=>by
  induction k with
  | zero=>intro _;exact Nat.zero_le _
  | succ k ih=>intro hk;have:=ih (by omega);have:=hstep k (by omega);omega
 have h1:=hall (n+1) (Zn _);have h2:=List.countP_le_length (p:=fun q=>decide (InK St s D (n+1) q)) (l:=List.range n);rw [List.length_range] at h2;omega
theorem Rch.bound {St:Qbx}{n:Nat}{D:Int}(hD:0≤D)(hst:∀ p q d,St p q d→q<n∧d≤D){s p:Nat}{c:Int}(h:Rch St s p c):∃ e,Rch St s p e∧e≤(n:Int)*D:=by
 obtain ⟨k,hk,hs⟩:=InK.stable St s hD n
 have hin:InK St s D k p:=by
  induction h with
  | start=>exact ⟨0,.start,Int.mul_nonneg (by omega) hD⟩
  | step h1 h2 ih =>
   obtain ⟨e,h3,h4⟩:=ih;have:=hst _ _ _ h2;refine hs _ this.1 ⟨_,h3.step h2,?_⟩
   push_cast
   rw [Int.add_mul,Int.one_mul];omega
 obtain ⟨e,h1,h2⟩:=hin;exact ⟨e,h1,Int.le_trans h2 (Int.mul_le_mul_of_nonneg_right (by omega) hD)⟩
theorem Dij.bd {St:Qbx}{s:Nat}{dn hp:Nat→Option Int}(h:Dij St s dn hp){M:Int}(hM:∀ p c,Rch St s p c→∃ e,Rch St s p e∧e≤M){p:Nat}{c:Int}(hd:dn p=some c):c≤M:=by
 obtain ⟨e,h1,h2⟩:=hM p c (h.dr p c hd);have:=h.dm p c hd e h1;omega
theorem Dij.bdTake {St:Qbx}{s:Nat}{dn hp:Nat→Option Int}(h:Dij St s dn hp)(h0:∀ p q d,St p q d→0≤d){M:Int}(hM:∀ p c,Rch St s p c→∃ e,Rch St s p e∧e≤M){p:Nat}{c:Int}(hp1:hp p=some c)(hm:∀ q e,hp q=some e→c≤e):c≤M:=by
 obtain ⟨e,h1,h2⟩:=hM p c (h.hr p c hp1);have:=h.least h0 hp1 hm e h1;omega
theorem Dij.init (St:Qbx)(s:Nat){hp:Nat→Option Int}(h:∀ q,hp q=if q=s then some 0 else none):Dij St s (fun _=>none) hp where
 dr:=fun p c h=>by cases h
 dm:=fun p c h=>by cases h
 hr:=fun p c hc=>by
  rw [h] at hc
  by_cases e:p=s
  · subst e;simp at hc;subst hc;exact .start
  · simp [e] at hc
 off:=fun p c h=>by cases h
 on:=fun p c q d h=>by cases h
 st:=.inr ⟨0,by rw [h,if_pos rfl],Int.le_refl _⟩
theorem OutB.next {Out:Qbx}{dn:Nat→Option Int}{k p:Nat}{b b' c:Int} (h:OutB Out dn k b (fun _=>False)) (hp:dn p=none) (hle:b'≤b) (hout:∀ d,Out p k d→b'≤c+d) (hhit:b'=b∨∃ d,Out p k d∧b'=c+d) :
 OutB Out (fun q=>if q=p then some c else dn q) k b' (fun _=>False) where
 lo:=fun q e d hq ho _=>by
  by_cases e1:q=p
  · subst e1;simp at hq;subst hq;exact hout d ho
  · simp [e1] at hq;have:=h.lo q e d hq ho (fun h=>h);omega
 hit:=by
  rcases hhit with e|⟨d,h1,h2⟩
  · subst e
    rcases h.hit with h1|⟨q,x,d,h1,h2,h3⟩
    · exact .inl h1
    · exact .inr ⟨q,x,d,by rw [if_neg (fun e=>by rw [e,hp] at h1;cases h1)];exact h1,h2,h3⟩
  · exact .inr ⟨p,c,d,by simp,h1,h2⟩
end Go.Proofs.YthoagdpakddbdaaGreatDoor
namespace Go.Proofs.YthoagdpakddbdaaGreatDoor
open Go.RowKit Go.Proofs.Tryz
theorem Qbo {N:Qai}{a b:Nat}(h:Qal N a b≠1152921504606846976):∃ x y,N.ar[a]?=some x∧N.ar[b]?=some y∧x.2.1=y.1:=by
 unfold Qal at h
 split at h
 · rename_i x y hx hy
   by_cases e:x.2.1=y.1
   · exact ⟨x,y,hx,hy,e⟩
   · rw [if_neg e] at h;exact absurd rfl h
 · exact absurd rfl h
def StA (N:Qai)(mk:List Bool):Qbx:=fun a b d=>∃ y,N.ar[b]?=some y∧Qal N a b≠1152921504606846976∧y.2.2≠1152921504606846976 ∧
 mk.getD y.1.toNat false=true∧mk.getD y.2.1.toNat false=true∧d=Qal N a b+y.2.2
def OuA (N:Qai):Qbx:=fun a t d=>Qal N a t≠1152921504606846976∧d=Qal N a t
def Qgr (N:Qai)(mk:List Bool)(s t:Nat)(v:Int):Prop:=Lst (Qsg (StA N mk) (OuA N) s t) v
theorem StA.lt {N:Qai}{mk:List Bool}{a b:Nat}{d:Int}(h:StA N mk a b d):b<N.ar.length:=by
 obtain ⟨y,hy,_⟩:=h;exact (Zs hy).1
theorem StN.stA {N:Qai}{mk:List Bool}{s na a b:Nat}{d:Int}(h:StN N mk s na a b d):StA N mk (if a=na then s else a) b d:=h
theorem StA.bd {N:Qai}(hok:Qav N){mk:List Bool}{a b:Nat}{d:Int}(h:StA N mk a b d):0≤d∧d≤4294967296:=by
 obtain ⟨y,hy,h1,h2,_,_,rfl⟩:=h;have h3:=(Qdu hok a b).resolve_left h1;have h4:=(Qgu (hok.arcs y (Zm hy)).w).resolve_left h2;omega
theorem OuA.bd {N:Qai}(hok:Qav N){a t:Nat}{d:Int}(h:OuA N a t d):0≤d∧d≤2147483648:=by
 obtain ⟨h1,rfl⟩:=h;exact (Qdu hok a t).resolve_left h1
def MB:Int:=70373039144960
theorem rchN_bd {N:Qai}(hok:Qav N){mk:List Bool}{s:Nat}(p:Nat)(c:Int) (h:Rch (StN N mk s N.ar.length) N.ar.length p c):∃ e,Rch (StN N mk s N.ar.length) N.ar.length p e∧e≤MB:=by
 obtain ⟨e,h1,h2⟩:=Rch.bound (n:=N.ar.length) (D:=4294967296) (by omega) (fun p q d h=>⟨(StN.stA h).lt,((StN.stA h).bd hok).2⟩) h;refine ⟨e,h1,?_⟩;have:=hok.la;unfold MB;omega
theorem Qix {N:Qai}(hok:Qav N){mk:List Bool}{s:Nat}(p:Nat)(c:Int) (h:Rch (StA N mk) s p c):∃ e,Rch (StA N mk) s p e∧e≤MB:=by
 obtain ⟨e,h1,h2⟩:=Rch.bound (n:=N.ar.length) (D:=4294967296) (by omega) (fun p q d h=>⟨h.lt,(h.bd hok).2⟩) h;refine ⟨e,h1,?_⟩;have:=hok.la;unfold MB;omega
theorem Qgr.bd {N:Qai}(hok:Qav N){mk:List Bool}{s t:Nat}{v:Int}(h:Qgr N mk s t v):v=1152921504606846976∨(0≤v∧v≤70375186628608):=by
 rcases h with ⟨⟨p,c,d,h1,h2,rfl⟩,hm⟩|⟨h1,_⟩
 · right
   have hc:=h1.pos (fun p q d h=>(h.bd hok).1);have hd:=h2.bd hok;obtain ⟨e,h3,h4⟩:=Qix hok p c h1;have:=hm (e+d) ⟨p,e,d,h3,h2,rfl⟩;unfold MB at h4;omega
 · exact .inl h1
theorem Qqs {bs:List Nat}{l:List Int}(h:nis bs=l)(b:Nat):b∈bs↔(b:Int)∈l:=by
 rw [←h];unfold nis
 constructor
 · intro hb;exact List.mem_map.2 ⟨b,hb,rfl⟩
 · intro hb
   obtain ⟨c,hc,e⟩:=List.mem_map.1 hb;have:c=b:=by omega
   rwa [←this]
theorem outs_mem {N:Qai}{a b:Nat}{x:Tri} (hx:N.ar[a]?=some x) {bs:List Nat} (hbs:nis bs=idx (·.1) N.ar x.2.1) (h:Qal N a b≠1152921504606846976):b∈bs:=by
 obtain ⟨x',y,h1,h2,h3⟩:=Qbo h;rw [hx] at h1
 cases h1
 exact (Qqs hbs b).2 (Qiv.2 ⟨b,y,rfl,h2,h3.symm⟩)
end Go.Proofs.YthoagdpakddbdaaGreatDoor
