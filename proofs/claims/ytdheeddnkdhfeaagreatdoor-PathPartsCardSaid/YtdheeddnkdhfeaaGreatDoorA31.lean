/- For every input PathParts returns true, and its arguments read afterwards as before; package errors' variable errorType tied to the program's text. No condition. -/
/- Parts of the proof: Yt, YtP. -/
import Derived.Test.YtdheeddnkdhfeaaGreatDoorA29
import Derived.Test.YtdheeddnkdhfeaaGreatDoorA30
namespace Go.Proofs.YtdheeddnkdhfeaaGreatDoor
open Go.RowKit Go.Extern.Stop Go.Stop Go.Extern Go.Proofs.Tryz
attribute [local go_sem ↓] Go.wp_at_zero Go.wp_at_succ
section
variable {P:Program} {ops:Array Oper} {Q:Exit→Act→World→Prop} {md:Region.Mode} {S:World→Prop} {G:Value→Value→Value→Value→Value→World→Prop} {L listed:Array Bool} {fuel:Nat} {a a':Act} {w:World} {d1 d2 d3 d4 d5:Option Tmp}
theorem Qip (d1 d2 d3 d4 d5:Option Tmp)
 (hA:RowKit.Hid (∀ v1 v2 v3 v4 v5 w',G v1 v2 v3 v4 v5 w'→wpAnyH P md ops Q S 2 L (((((a.put d1 v1).put d2 v2).put d3 v3).put d4 v4).put d5 v5) w')→wpAnyH P md ops Q S fuel listed a w)
 (hB:∀ v1 v2 v3 v4 v5 w',G v1 v2 v3 v4 v5 w'→wpAnyH P md ops Q S 2 L (((((a.put d1 v1).put d2 v2).put d3 v3).put d4 v4).put d5 v5) w'):wpAnyH P md ops Q S fuel listed a w:=hA (Zh hB)
theorem Qeh (hC:RowKit.Hid (∀ v1 v2 v3 v4 v5 w',G v1 v2 v3 v4 v5 w'→wpAnyH P md ops Q S 2 L (((((a.put d1 v1).put d2 v2).put d3 v3).put d4 v4).put d5 v5) w')) (v1 v2 v3 v4 v5:Value) (hf:fuel=2) (hG:G v1 v2 v3 v4 v5 w) (hl:listed=L) (ha:(((((a.put d1 v1).put d2 v2).put d3 v3).put d4 v4).put d5 v5)=a'):wpAnyH P md ops Q S fuel listed a' w:=by
 subst hf;subst hl;subst ha;exact hC.out _ _ _ _ _ _ hG
end
def PpG (w:World)(N:Qam) (ls:List (List Int)) (s t:Nat) (v1 v2 v3 v4 v5:Value) (w':World):Prop :=
 ∃ (v:Int) (A:Option Addr) (n c:Nat) (L:List Nat) (k:Int) (g8:Nat),v1=.tuple #[.agg #[.slice A n c,.int .i64 v,.int .i64 k],.nilIface]∧v2=.tuple #[.agg #[.slice A n c,.int .i64 v,.int .i64 k],.nilIface]∧v3=.agg #[.slice A n c,.int .i64 v,.int .i64 k]∧v4=.nilIface∧v5=.pointer (some ⟨g8,0,none⟩)∧PthP N s t ls.length v L k∧RdI w' A n (nis L)∧n≤1000000000∧n≤c∧c≤9223372036854775807∧(∀ q,Qab A=some q→q≠g8)∧w.heap.size≤g8∧Blk w' g8 80 #[.slice none 0 0,.int .i64 0,.int .i64 0]∧Below w.heap.size w w'
theorem RdI.set_ne {w:World}{A:Option Addr}{n:Nat}{l:List Int}(h:RdI w A n l)(g o:Nat)(v:Value)(hg:∀ q,Qab A=some q→q≠g):RdI (w.setCell ⟨g,o,none⟩ v) A n l :=
 ⟨h.1,fun i x hx=>by
  obtain ⟨b,o',e,h1⟩:=h.2 i x hx;exact ⟨b,o',e,(World.cell?_setCell_other _ _ _ _ (fun e2=>hg b (by rw [e];rfl) (by cases e2;rfl))).trans h1⟩⟩
theorem Qgx.fw {N:Qam}{s t:Nat}{v:Int}(h:Qgx N s t v)(hv:v≠1152921504606846976){y:Tri} (hy:N.ar[s]?=some y):y.2.2≠1152921504606846976:=by
 rw [←(Qbr hy).2.2]
 rcases h with ⟨_,h2⟩|⟨h1,_⟩
 · exact absurd h2 hv
 · exact h1
theorem part_nis {l:List Nat}{X Y u:Nat} (hu:l[X]?=some u) (h:X≤Y):((nis l).drop X).take (Y+1-X)=nis (u::(l.drop (X+1)).take (Y-X)):=by
 obtain ⟨h1,h2⟩:=Zs hu;unfold nis;rw [←List.map_drop,←List.map_take,List.drop_eq_getElem_cons h1,h2,show Y+1-X=(Y-X)+1 by omega,List.take_succ_cons]
theorem Qsj (a m:Nat)(ha:a≤65535)(hm:0<m)(h9:m≤1000000000):∃ s:Nat,s<m∧Int.tmod (a:Int) (m:Int)=(s:Int)∧(a:Int) % (m:Int)=(s:Int)∧IntKind.i64.wrap (s:Int)=(s:Int)∧IntKind.i64.wrap (a:Int)=(a:Int):=by
 have h:=Nat.mod_lt a hm;exact ⟨a % m,h,(Int.ofNat_tmod a m).symm,rfl,IntWalk.i64_in _ (by omega),IntWalk.i64_in _ (by omega)⟩
set_option maxRecDepth 20000 in
set_option maxHeartbeats 60000000 in
theorem Qlb (A B C Q:Option Addr)(n m k c d e L cq:Nat)(N:Qam) (ls:List (List Int)) (a b i0 k0:Int) (w:World) (h:Qce w A B C n m k N) (hk:k≤9223372036854775807) (hq:RdT w Q L ls) (hL:L≤9223372036854775807) (ha:0≤a∧a≤65535) (hb:0≤b∧b≤65535) (hi:0≤i0∧i0≤255) (hj:0≤k0∧k0≤255) (hg:w.cell? ⟨0,0,none⟩=some Qmv) :
 Calls prog 6 #[.agg #[.slice A n c,.slice B m d,.slice C k e],.agg #[.slice Q L cq],.int .u16 a,.int .u16 b,.int .u8 i0,.int .u8 k0] w fun r w'=>r=.returned (.bool true)∧Below w.heap.size w w':=by
 obtain ⟨an,rfl⟩:∃ an:Nat,a=(an:Int):=⟨a.toNat,by omega⟩;obtain ⟨bn,rfl⟩:∃ bn:Nat,b=(bn:Int):=⟨b.toNat,by omega⟩;obtain ⟨xn,rfl⟩:∃ xn:Nat,i0=(xn:Int):=⟨i0.toNat,by omega⟩;obtain ⟨yn,rfl⟩:∃ yn:Nat,k0=(yn:Int):=⟨k0.toNat,by omega⟩;have HH:=Zh h;have HT:=Zh hq;have HG:=Zh hg;have HNA:=Zh (show N.ar.length=m from h.2.1.1)
 have HNV:=Zh (show N.vs.length=n from h.1.1)
 clear h hq hg
 go_enter func6,ntmps6
 go_wp2_with fail
 (refine Qae ?_;intro w1 hw1)
 have hb1:Below w.heap.size w w1:=by rw [hw1];exact Qah
 have hX:Blk w1 w.heap.size 26 #[.slice A n c,.slice B m d,.slice C k e]:=by rw [hw1];exact Qbh
 have hY:Blk w1 (w.heap.size+1) 29 #[.slice Q L cq]:=by rw [hw1];exact Qbh
 clear hw1;with_reducible refine (Qls w1 (Zc hb1 (Zn _) HG.out)).mono ?_
 rintro r w2 ⟨rfl,hb2⟩;have hq2:=hb2;have hX2:=hX.below hb2 hX.lt;have hY2:=hY.below hb2 hY.lt;have hb2':=Zb hb1 hb2;clear hX hY hb1 hb2;obtain ⟨x0,x1,x2⟩:=hX2.three;have y0:=hY2.cell 0;simp only [Yo,Yn] at y0
 go_wp2_with fail
 with_reducible refine (Qpe A B C Q n m k c d e L cq N ls w2 (HH.out.below hb2') hk (HT.out.below hb2') hL).mono ?_
 rintro r w3 ⟨hr,hb3⟩;have hb3':=Zb hb2' hb3;have hq3:=Zb hq2 hb3;have hX3:=hX2.below hb3 hX2.lt;have hY3:=hY2.below hb3 hY2.lt;clear x0 x1 x2 y0 hX2 hY2 hb2' hb3 hq2;obtain ⟨b,rfl,hGG⟩:=hr
 cases b with
 | false =>
  clear hGG
  go_wp2_with fail
  go_ret
  exact ⟨rfl,hb3'⟩
 | true =>
 have hmay:=hGG rfl;clear hGG;have HMAY:=Zh hmay;have hok:=hmay.small.ok;clear hmay;obtain ⟨x0,x1,x2⟩:=hX3.three;have y0:=hY3.cell 0;simp only [Yo,Yn] at y0
 by_cases hm0:m=0
 · have e0:((m:Int) == 0)=true:=by simp [hm0]
   clear hm0
   go_wp2_with fail
   go_ret
   exact ⟨rfl,hb3'⟩
 have e0:((m:Int) == 0)=false:=by simp;exact hm0
 go_wp2_with fail
 with_reducible refine (Qmi A B C Q n m k c d e L cq N ls w3 (HH.out.below hb3') hok (HT.out.below hb3') HMAY.out.part (Qfs HMAY.out)).mono ?_
 unfold Qpk;rintro r w5 ⟨⟨g,o,CB,NC,cl,F,rfl,hNCe,hG5,hF5,hO5,hC5,hA5⟩,hb5⟩;have HNC:=Zh hNCe;have HB5:=Zh (Zb hb3' hb5);have HQ5:=Zh (Zb hq3 hb5);have HX5:=Zh (hX3.below hb5 hX3.lt);have HY5:=Zh (hY3.below hb5 hY3.lt);have HG5:=Zh hG5.rd;have HO5:=Zh (hO5.le (Qat _ _));have HC5:=Zh (show RdI w5 (some ⟨CB,0,none⟩) NC cl from ⟨hC5.1,fun i x hx=>by obtain ⟨b,o,e,h1⟩:=hC5.2 i x hx;exact ⟨b,o,e,Qat _ _ _ _ h1⟩⟩)
 have HALL:=Zh hA5;clear x0 x1 x2 y0 hX3 hY3 hb5 hb3' hNCe hG5 hF5 hO5 hC5 hA5 hq3;obtain ⟨x0,x1,x2⟩:=HX5.out.three;have y0:=HY5.out.cell 0;simp only [Yo,Yn] at y0;have hm4:m≤16384:=by rw [←HNA.out];exact hok.la
 have HMOD:=Zh (show 0<m from by omega)
 obtain ⟨s,hsm,m0,m2,wr0,wu0⟩:=Qsj an m (by omega) (by omega) (by omega);obtain ⟨t,htm,m1,m3,wr1,wu1⟩:=Qsj bn m (by omega) (by omega) (by omega);obtain ⟨xs,hxs⟩:∃ xs,N.ar[s]?=some xs:=⟨_,Zg (by rw [HNA.out];exact hsm)⟩;obtain ⟨xt,hxt⟩:∃ xt,N.ar[t]?=some xt:=⟨_,Zg (by rw [HNA.out];exact htm)⟩;have HXS:=Zh hxs;have HOK:=Zh hok;have HPP:=Zh (fun V (hV:Below w5.heap.size w5 V)=>Qfq V g o N ls (some ⟨CB,0,none⟩) NC NC cl s t xs xt (HG5.out.below hV) (HO5.out.below hV) (HC5.out.below hV) hok HMAY.out.part HALL.out ⟨Zn _,by have:=Qfs HMAY.out;have:=HNC.out;omega⟩ (Qfs HMAY.out) hxs hxt);have HPQ:=Zh (fun (u v:Nat) (yu yv:Tri) (hu:N.ar[u]?=some yu) (hv:N.ar[v]?=some yv) V (hV:Below w5.heap.size w5 V)=>Qfq V g o N ls (some ⟨CB,0,none⟩) NC NC cl u v yu yv (HG5.out.below hV) (HO5.out.below hV) (HC5.out.below hV) hok HMAY.out.part HALL.out ⟨Zn _,by have:=Qfs HMAY.out;have:=HNC.out;omega⟩ (Qfs HMAY.out) hu hv);have en0:¬m=0:=hm0;have en1:¬(m:Int)=0:=by omega
 have HSX:=Zh (show ∀ V,Below w5.heap.size w5 V→V.cell? ⟨w.heap.size,1,none⟩=some (.slice B m d) from fun V hV=>by rw [(HX5.out.below hV HX5.out.lt).cell];rfl)
 clear e0 x0 x1 x2 y0 hxs hxt hok hm0
 go_wp2_with fail
 refine wp_region_held_drew (S:=fun V=>Below w5.heap.size w5 V) (by kernel_rfl) (Zr _ _).drew (fun _=>?_);refine tz 0 46 ?_;refine tz 1 47 ?_;refine tz 2 48 ?_;refine tz 3 49 ?_;refine tz 4 50 ?_;refine tz 5 51 ?_;refine tz 6 52 ?_;refine tz 7 53 ?_;refine tz 8 54 ?_;refine tz 9 55 ?_;refine tz 10 56 ?_;refine tz 11 57 ?_;refine tz 12 58 ?_;refine tz 13 59 ?_;refine tz 14 60 ?_;clear HSX m0 m1 m2 m3 wr0 wr1 wu0 wu1 en0 en1;obtain ⟨W0,q⟩:∃ X,X=w5.drew:=⟨_,rfl⟩;have hbW:Below w5.heap.size w5 W0:=by rw [q];exact (Zr _ _).drew
 have HZW:=Zh (show W0.heap.size=w5.heap.size by rw [q];rfl)
 rw [←q];clear q;refine Qip (G:=PpG w5 N ls s t) (L:=#[true,true,true,true,true,true,true,true,true,true,true,true,true,true,true,true,true,true,true,true,false,false]) (some 61) (some 45) (some 62) (some 63) (some 17) (fun hC=>?_) ?_
 · refine wpAnyH_ready (rs:=[15,19]) (by kernel_rfl) (by simp) ?_
   refine AllReadyH.cons (o:=_) rfl (fun K hK=>?_) (AllReadyH.cons (o:=_) rfl (fun K hK=>?_) AllReadyH.nil)
   · go_simp
     with_reducible refine (HPP.out W0 hbW).mono ?_
     rintro r w7 ⟨⟨v,A7,n7,c7,L7,k7,rfl,hp7,hr7,hn7,hc7,hm7,hq7⟩,hb7⟩;have hb07:=Zb hbW hb7;go_simp;refine hK.out _ _ hb07 (fun _=>?_);clear hK K;refine tz 16 45 ?_;refine tz 17 62 ?_;refine tz 18 63 ?_;have hba:Below w7.heap.size w7 (w7.alloc (.cells #[.slice none 0 0,.int .i64 0,.int .i64 0] 80)):=Qah;refine Zk 19 (fun K hK=>?_);go_simp;refine hK.out _ _ (Zb hb07 hba) (fun _=>?_);clear hK K;refine Qeh hC _ _ _ _ _ ?_ ⟨v,A7,n7,c7,L7,k7,w7.heap.size,rfl,rfl,rfl,rfl,rfl,hp7,hr7.below hba,hn7,hc7,hm7,fun q hq e=>by have:=(hq7 q hq).2;omega,hb07.size,Blk.new _ _ _,Zb hb07 hba⟩ ?_ ?_
     · kernel_rfl
     · kernel_rfl
     · simp only [Act.put,Yi,Yj,Yk]
   · go_simp
     have hba:Below W0.heap.size W0 (W0.alloc (.cells #[.slice none 0 0,.int .i64 0,.int .i64 0] 80)):=Qah;have hB5:Blk (W0.alloc (.cells #[.slice none 0 0,.int .i64 0,.int .i64 0] 80)) W0.heap.size 80 #[.slice none 0 0,.int .i64 0,.int .i64 0]:=Blk.new _ _ _;have hb4a:=Zb hbW hba;refine hK.out _ _ hb4a (fun _=>?_);clear hK K;obtain ⟨W1,q⟩:∃ X,X=W0.alloc (.cells #[.slice none 0 0,.int .i64 0,.int .i64 0] 80):=⟨_,rfl⟩;rw [←q] at hba hB5 hb4a ⊢;clear q;refine Zk 15 (fun K hK=>?_);go_simp;with_reducible refine (HPP.out W1 hb4a).mono ?_
     rintro r w7 ⟨⟨v,A7,n7,c7,L7,k7,rfl,hp7,hr7,hn7,hc7,hm7,hq7⟩,hb7⟩;have hb07:=Zb hb4a hb7;go_simp;refine hK.out _ _ hb07 (fun _=>?_);clear hK K;refine tz 16 45 ?_;refine tz 17 62 ?_;refine tz 18 63 ?_;refine Qeh hC _ _ _ _ _ ?_ ⟨v,A7,n7,c7,L7,k7,W0.heap.size,rfl,rfl,rfl,rfl,rfl,hp7,hr7,hn7,hc7,hm7,fun q hq e=>by have h1:=(hq7 q hq).1;have h2:=hB5.lt;omega,by have:=HZW.out;omega,hB5.below hb7 hB5.lt,hb07⟩ ?_ ?_
     · kernel_rfl
     · kernel_rfl
     · simp only [Act.put,Yi,Yj,Yk]
 rintro v61 v45 v62 v63 v17 w6 ⟨v,A6,n6,c6,L6,k6,g6,rfl,rfl,rfl,rfl,rfl,hp6,hr6,hn6,hc6,hm6,hq6,hg6,hB6,hb6⟩;simp only [Act.put,Yi,Yj,Yk];obtain ⟨d0,d1,d2⟩:=hB6.three;have f0:=hB6.frozen 0;have f1:=hB6.frozen 1;have f2:=hB6.frozen 2;have hb7:Below w5.heap.size w5 (((w6.setCell ⟨g6,0,none⟩ (.slice A6 n6 c6)).setCell ⟨g6,1,none⟩ (.int .i64 v)).setCell ⟨g6,2,none⟩ (.int .i64 k6)):=((hb6.setCell (by exact hg6) _).setCell (by exact hg6) _).setCell (by exact hg6) _;refine Zk 20 (fun K hK=>?_);go_simp;refine hK.out _ _ hb7 (fun _=>?_);clear hK K;refine tz 21 18 ?_;refine Zd ?_;obtain ⟨w7,hw7⟩:∃ X,X=((w6.setCell ⟨g6,0,none⟩ (.slice A6 n6 c6)).setCell ⟨g6,1,none⟩ (.int .i64 v)).setCell ⟨g6,2,none⟩ (.int .i64 k6):=⟨_,rfl⟩;rw [←hw7] at hb7 ⊢
 have hB7:Blk w7 g6 80 #[.slice A6 n6 c6,.int .i64 v,.int .i64 k6]:=by
  have:=((hB6.set_ 0 (.slice A6 n6 c6)).set_ 1 (.int .i64 v)).set_ 2 (.int .i64 k6);rw [←hw7] at this
  simpa using this
 have HR7:=Zh (show RdI w7 A6 n6 (nis L6) by rw [hw7];exact ((hr6.set_ne _ _ _ hq6).set_ne _ _ _ hq6).set_ne _ _ _ hq6)
 have HB7:=Zh hB7;have HP6:=Zh hp6;have H57:=Zh hb7;have HBW7:=Zh (Zb HB5.out hb7);have HC6:=Zh hc6;have HM6:=Zh hm6;have HG6:=Zh (show w.heap.size≤g6 from by have:=HB5.out.size;omega)
 clear d0 d1 d2 f0 f1 f2 hw7 hr6 hB6 hB7 hp6 hb6 hb7 hc6 hm6 hg6;obtain ⟨d0,d1,d2⟩:=HB7.out.three
 by_cases hv:v=1152921504606846976
 · subst hv
   obtain ⟨rfl,rfl⟩:=HP6.out.none_ rfl;obtain rfl:n6=0:=by rw [←HR7.out.1];rfl
   go_wp2_with fail
   go_ret
   exact ⟨rfl,HBW7.out⟩
 obtain ⟨l,rfl,hrl,hll⟩:=HP6.out.row hv;have hn:n6=l.length+1:=by have:=HR7.out.1;rw [Qck,List.length_cons] at this;exact this.symm
 have hv1:(v == 1152921504606846976)=false:=by simpa using hv
 have hv2:decide (v=1152921504606846976)=false:=by simpa using hv
 have hn0:0<n6:=by omega
 have hn1:((n6:Int) == 0)=false:=by simp;omega
 have HN6:=Zh hn;have HRL:=Zh hrl;have HV:=Zh hv;clear hn hrl hv hll;obtain ⟨x,hx,m0,m2,wr0,wu0⟩:=Qsj xn n6 (by omega) hn0 hn6;obtain ⟨y,hy,m1,m3,wr1,wu1⟩:=Qsj yn n6 (by omega) hn0 hn6;have en0:¬n6=0:=by omega
 have en1:¬(n6:Int)=0:=by omega
 have HSX:=Zh (show ∀ V,Below w7.heap.size w7 V→V.cell? ⟨g6,0,none⟩=some (.slice A6 n6 c6) from fun V hV=>by rw [(HB7.out.below hV HB7.out.lt).cell];rfl)
 go_wp2_with fail
 clear d0 d1 d2 hv1 hv2 hn1;refine wp_region_held_drew (S:=fun V=>Below w7.heap.size w7 V) (by kernel_rfl) (Zr _ _).drew (fun _=>?_);refine tz 0 77 ?_;refine tz 1 78 ?_;refine tz 2 79 ?_;refine tz 3 80 ?_;refine tz 4 81 ?_;refine tz 5 82 ?_;refine tz 6 83 ?_;refine tz 7 84 ?_;refine tz 8 85 ?_;refine tz 9 86 ?_;refine tz 10 87 ?_;refine tz 11 88 ?_;refine tz 12 19 ?_;refine tz 13 20 ?_;refine Zd ?_;clear HSX m0 m1 m2 m3 wr0 wr1 wu0 wu1 en0 en1;obtain ⟨w8,hw8⟩:∃ W,W=w7.drew:=⟨_,rfl⟩;rw [←hw8];have HB78:=Zh (show Below w7.heap.size w7 w8 by rw [hw8];exact (Zr _ _).drew)
 clear hw8
 go_wp2_with fail
 have emn:min (x:Int) (y:Int)=((min x y:Nat):Int):=by omega
 have emx:max (x:Int) (y:Int)=((max x y:Nat):Int):=by omega
 rw [emn,emx];clear emn emx;obtain ⟨X,hX⟩:∃ X,X=min x y:=⟨_,rfl⟩;obtain ⟨Y,hY⟩:∃ Y,Y=max x y:=⟨_,rfl⟩;rw [←hX,←hY];have hXY:X≤Y:=by omega
 have hYn:Y<n6:=by omega
 have hXn:X<n6:=by omega
 clear hX hY hx hy;obtain ⟨u,hu⟩:∃ u,(s::l)[X]?=some u:=⟨_,Zg (by rw [List.length_cons];have:=HN6.out;omega)⟩;obtain ⟨r,hr⟩:∃ u,(s::l)[Y]?=some u:=⟨_,Zg (by rw [List.length_cons];have:=HN6.out;omega)⟩;obtain ⟨ev,hev,hed,hei⟩:=Qus HOK.out HRL.out HP6.out.dist HV.out hu hr hXY
 have HAR:=Zh (show ∀ q,q∈s::l→∃ y,N.ar[q]?=some y from fun q hq=>by
  rcases List.mem_cons.1 hq with rfl|hq
  · exact ⟨_,HXS.out⟩
  · obtain ⟨_,_,y,hy,_⟩:=HRL.out.mem hq
    exact ⟨y,hy⟩)
 obtain ⟨yu,hyu⟩:=HAR.out u (Zm hu);obtain ⟨yr,hyr⟩:=HAR.out r (Zm hr);have HPP:=Zh (fun V (hV:Below w8.heap.size w8 V)=>HPQ.out u r yu yr hyu hyr V (Zb (Zb H57.out HB78.out) hV));obtain ⟨xb,xo,rfl,x0⟩:=HR7.out.2 X (u:Int) (Qcd hu);obtain ⟨_,_,e9,x1⟩:=HR7.out.2 Y (r:Int) (Qcd hr)
 cases e9
 have HU:=Zh hu;have HEV:=Zh hev;have HED:=Zh hed;have HEI:=Zh hei;have HYU:=Zh hyu
 have HSX:=Zh (show ∀ V,Below w8.heap.size w8 V→V.cell? ⟨g6,0,none⟩=some (.slice (some ⟨xb,xo,none⟩) n6 c6)∧V.cell? ⟨xb,xo+X,none⟩=some (.int .i64 (u:Int))∧V.cell? ⟨xb,xo+Y,none⟩=some (.int .i64 (r:Int)) from fun V hV=>by
  have hV7:=Zb HB78.out hV;exact ⟨by rw [(HB7.out.below hV7 HB7.out.lt).cell];rfl,Zc hV7 (Zn _) x0,Zc hV7 (Zn _) x1⟩)
 have k1:(X:Int)<(n6:Int):=by omega
 have k2:(Y:Int)<(n6:Int):=by omega
 clear hu hr hev hed hei hyu hyr x0 x1 HPQ;refine wp_region_held_drew (S:=fun V=>Below w8.heap.size w8 V) (by kernel_rfl) (Zr _ _).drew (fun _=>?_);refine tz 0 96 ?_;refine tz 1 97 ?_;refine tz 2 98 ?_;refine tz 3 99 ?_;refine tz 4 100 ?_;refine tz 5 101 ?_;refine tz 6 102 ?_;refine tz 7 103 ?_;refine tz 8 104 ?_;refine tz 9 105 ?_;refine tz 10 106 ?_;refine tz 11 107 ?_;refine tz 12 108 ?_;clear HSX;obtain ⟨W0,q⟩:∃ X,X=w8.drew:=⟨_,rfl⟩;have hbW:Below w8.heap.size w8 W0:=by rw [q];exact (Zr _ _).drew
 have HZW:=Zh (show W0.heap.size=w8.heap.size by rw [q];rfl)
 rw [←q];clear q;refine Qip (G:=PpG w8 N ls u r) (L:=#[true,true,true,true,true,true,true,true,true,true,true,true,true,true,true,true,true,true,false,false]) (some 109) (some 95) (some 110) (some 111) (some 21) (fun hC=>?_) ?_
 · refine wpAnyH_ready (rs:=[13,17]) (by kernel_rfl) (by simp) ?_
   refine AllReadyH.cons (o:=_) rfl (fun K hK=>?_) (AllReadyH.cons (o:=_) rfl (fun K hK=>?_) AllReadyH.nil)
   · go_simp
     with_reducible refine (HPP.out W0 hbW).mono ?_
     rintro r w7 ⟨⟨v,A7,n7,c7,L7,k7,rfl,hp7,hr7,hn7,hc7,hm7,hq7⟩,hb7⟩;have hb07:=Zb hbW hb7;go_simp;refine hK.out _ _ hb07 (fun _=>?_);clear hK K;refine tz 14 95 ?_;refine tz 15 110 ?_;refine tz 16 111 ?_;have hba:Below w7.heap.size w7 (w7.alloc (.cells #[.slice none 0 0,.int .i64 0,.int .i64 0] 80)):=Qah;refine Zk 17 (fun K hK=>?_);go_simp;refine hK.out _ _ (Zb hb07 hba) (fun _=>?_);clear hK K;refine Qeh hC _ _ _ _ _ ?_ ⟨v,A7,n7,c7,L7,k7,w7.heap.size,rfl,rfl,rfl,rfl,rfl,hp7,hr7.below hba,hn7,hc7,hm7,fun q hq e=>by have:=(hq7 q hq).2;omega,hb07.size,Blk.new _ _ _,Zb hb07 hba⟩ ?_ ?_
     · kernel_rfl
     · kernel_rfl
     · simp only [Act.put,Yi,Yj,Yk]
   · go_simp
     have hba:Below W0.heap.size W0 (W0.alloc (.cells #[.slice none 0 0,.int .i64 0,.int .i64 0] 80)):=Qah;have hB5:Blk (W0.alloc (.cells #[.slice none 0 0,.int .i64 0,.int .i64 0] 80)) W0.heap.size 80 #[.slice none 0 0,.int .i64 0,.int .i64 0]:=Blk.new _ _ _;have hb4a:=Zb hbW hba;refine hK.out _ _ hb4a (fun _=>?_);clear hK K;obtain ⟨W1,q⟩:∃ X,X=W0.alloc (.cells #[.slice none 0 0,.int .i64 0,.int .i64 0] 80):=⟨_,rfl⟩;rw [←q] at hba hB5 hb4a ⊢;clear q;refine Zk 13 (fun K hK=>?_);go_simp;with_reducible refine (HPP.out W1 hb4a).mono ?_
     rintro r w7 ⟨⟨v,A7,n7,c7,L7,k7,rfl,hp7,hr7,hn7,hc7,hm7,hq7⟩,hb7⟩;have hb07:=Zb hb4a hb7;go_simp;refine hK.out _ _ hb07 (fun _=>?_);clear hK K;refine tz 14 95 ?_;refine tz 15 110 ?_;refine tz 16 111 ?_;refine Qeh hC _ _ _ _ _ ?_ ⟨v,A7,n7,c7,L7,k7,W0.heap.size,rfl,rfl,rfl,rfl,rfl,hp7,hr7,hn7,hc7,hm7,fun q hq e=>by have h1:=(hq7 q hq).1;have h2:=hB5.lt;omega,by have:=HZW.out;omega,hB5.below hb7 hB5.lt,hb07⟩ ?_ ?_
     · kernel_rfl
     · kernel_rfl
     · simp only [Act.put,Yi,Yj,Yk]
 rintro v109 v95 v110 v111 v21 w9 ⟨v9,A9,n9,c9,L9,k9,g9,rfl,rfl,rfl,rfl,rfl,hp9,hr9,hn9,hc9,hm9,hq9,hg9,hB9,hb9⟩;simp only [Act.put,Yi,Yj,Yk];obtain rfl:=hp9.dist.uniq HED.out;obtain ⟨d0,d1,d2⟩:=hB9.three;have f0:=hB9.frozen 0;have f1:=hB9.frozen 1;have f2:=hB9.frozen 2;have hb10:Below w8.heap.size w8 (((w9.setCell ⟨g9,0,none⟩ (.slice A9 n9 c9)).setCell ⟨g9,1,none⟩ (.int .i64 v9)).setCell ⟨g9,2,none⟩ (.int .i64 k9)):=((hb9.setCell (by exact hg9) _).setCell (by exact hg9) _).setCell (by exact hg9) _;refine Zk 18 (fun K hK=>?_);go_simp;refine hK.out _ _ hb10 (fun _=>?_);clear hK K;refine tz 19 22 ?_;refine Zd ?_;obtain ⟨w10,hw10⟩:∃ X,X=((w9.setCell ⟨g9,0,none⟩ (.slice A9 n9 c9)).setCell ⟨g9,1,none⟩ (.int .i64 v9)).setCell ⟨g9,2,none⟩ (.int .i64 k9):=⟨_,rfl⟩;rw [←hw10] at hb10 ⊢
 have HB10:=Zh (show Blk w10 g9 80 #[.slice A9 n9 c9,.int .i64 v9,.int .i64 k9] from by
  have:=((hB9.set_ 0 (.slice A9 n9 c9)).set_ 1 (.int .i64 v9)).set_ 2 (.int .i64 k9);rw [←hw10] at this
  simpa using this)
 have hb710:=Zb HB78.out hb10;have HW10:=Zh (Zb HBW7.out hb710);have HX10:=Zh (HX5.out.below (Zb H57.out hb710) HX5.out.lt);have HW:=Zh (HB7.out.below hb710 HB7.out.lt)
 have HRC:=Zh (show RdI w10 (some ⟨xb,xo+X,none⟩) (Y+1-X) (nis (u::(l.drop X).take (Y-X))) from by
  have h1:=RdI.sub (HR7.out.below hb710) X (Y+1-X) (by omega);have h2:((nis (s::l)).drop X).take (Y+1-X)=nis (u::(l.drop X).take (Y-X)):=part_nis HU.out (by omega);rw [h2,show ((some ⟨xb,xo,none⟩:Option Addr).map (·.add X))=some ⟨xb,xo+X,none⟩ from by simp [Addr.add]] at h1
  exact h1)
 have HCO:=Zh (fun V (hV:Below w10.heap.size w10 V) cx=>Quk V A B C n m k c d e N (some ⟨xb,xo+X,none⟩) (Y+1-X) cx u r v9 _ (HH.out.below (Zb HW10.out hV)) HOK.out ⟨yu,HYU.out,HED.out.fw HEI.out HYU.out⟩ HEV.out (HED.out.fin HOK.out HEI.out).2 (HRC.out.below hV) (by omega));have hcs:Y+1≤c6:=by have:=HC6.out;omega
 have q1:(X:Int)≤(Y:Int)+1:=by omega
 have q2:(Y:Int)+1≤(c6:Int):=by omega
 have q3:(0:Int)≤(X:Int):=by omega
 have q6:¬c6=X:=by omega
 have q4:(0:Int)≤(Y:Int)+1:=by omega
 have q5:IntKind.i64.wrap ((Y:Int)+1)=(Y:Int)+1:=IntWalk.i64_in _ (by omega)
 have HSX:=Zh (show ∀ V,Below w10.heap.size w10 V→V.cell? ⟨w.heap.size,0,none⟩=some (.slice A n c)∧V.cell? ⟨w.heap.size,1,none⟩=some (.slice B m d)∧V.cell? ⟨w.heap.size,2,none⟩=some (.slice C k e)∧V.cell? ⟨g6,0,none⟩=some (.slice (some ⟨xb,xo,none⟩) n6 c6)∧V.cell? ⟨g9,1,none⟩=some (.int .i64 v9) from fun V hV=>by
  have hX:=HX10.out.below hV HX10.out.lt;have hY:=HW.out.below hV HW.out.lt;have hZ:=HB10.out.below hV HB10.out.lt;exact ⟨Zq hX,Zq hX,Zq hX,Zq hY,Zq hZ⟩)
 clear d0 d1 d2 f0 f1 f2 hw10 hb10 hb710 hb9 hB9 hr9 hp9 hq9 hq6 k1 k2
 go_wp2_with fail
 refine wp_region_held_drew (S:=fun V=>Below w10.heap.size w10 V) (by kernel_rfl) (Zr _ _).drew (fun _=>?_);refine tz 0 112 ?_;refine tz 1 113 ?_;refine tz 2 114 ?_;refine tz 3 115 ?_;refine tz 4 116 ?_;refine tz 5 117 ?_;refine tz 6 118 ?_;refine tz 7 119 ?_;refine tz 8 120 ?_;refine tz 9 121 ?_;refine tz 10 122 ?_;refine tz 11 123 ?_;refine Zk 12 (fun K hK=>?_);go_simp;with_reducible refine (HCO.out _ (Zr _ _).drew _).mono ?_
 rintro r w11 ⟨rfl,hb11⟩;have hb11':Below w10.heap.size w10 w11:=(Zr _ _).drew.trans hb11;go_simp;refine hK.out _ _ hb11' (fun _=>?_);clear hK K;refine tz 13 125 ?_;refine tz 14 126 ?_;refine tz 15 12 ?_;refine Zd ?_;have HFIN:=Zh (Zb HW10.out hb11');clear HSX hb11 hb11'
 go_wp2_with fail
 go_ret
 exact ⟨rfl,HFIN.out⟩
end Go.Proofs.YtdheeddnkdhfeaaGreatDoor
namespace Go.Proofs.YtdheeddnkdhfeaaGreatDoor
open Go.ChangeShapes Go.WideShapes Go.ChangeAt Go.RowKit Go.Deep
namespace PathPartsDone
set_option maxRecDepth 100000 in
theorem lifted (os:Os)(started:os.Started)(H:Type)(enc:TypeId×Value→H) :
 ReturnsInHanded {} Tryz.checked os 6 .any (fun w args => (Rows.pathPartsSpec.pre enc Tryz.prog Tryz.f6 [] false w args ∧ laidMetH Tryz.prog [("errors.errorType", Rows.laid_errors_errorType)] w) ∧ sizedMet enc Tryz.prog Tryz.f6 (OpenSpec.ofChange Rows.pathPartsSpec) false w args)
  (Rows.pathPartsSpec.post enc Tryz.prog Tryz.f6 false true false false):=by
 refine returnsInHanded_of_change_and (C := Tryz.checked) (X := fun w _ => laidMetH Tryz.prog [("errors.errorType", Rows.laid_errors_errorType)] w) (fun _ _ _ hh h => h.of_heap hh) own_ started (by kernel_rfl) Tryz.func6
  (ChangeSpec.witness_at (enc := enc) (C := Tryz.checked) (os := os) (X := fun w _ => laidMetH Tryz.prog [("errors.errorType", Rows.laid_errors_errorType)] w) false (Qjn os) #[.agg #[.slice none 0 0, .slice none 0 0, .slice none 0 0], .agg #[.slice none 0 0], .int .u16 0, .int .u16 0, .int .u8 0, .int .u8 0] 8 rfl (by kernel_rfl) (by kernel_rfl) (by kernel_rfl) (by kernel_rfl) (by kernel_rfl) (Qhs os _)) ?_
 intro W base args ds gs before hval0 hW _ hsz0 hL _;clear hsz0;have hval:∀ (j:Nat) t v,Tryz.f6.params[j]?=some t→args[j]?=some v→Value.okWide Tryz.prog W .any base t v:=hval0;have hW':=hW;obtain ⟨p,q,hA0,hV,rfl,hfz,hnd⟩:=hW;have hA:DataW.TrodAll enc Tryz.prog W 0 (fun _=>true) true Tryz.f6.params.toList args.toList ds p:=hA0;rw [Tryz.params6] at hA hval;obtain ⟨v0,vs0,d0,ds0,p0,q0,hargs,rfl,rfl,h0,r0⟩:=trodAll_cons hA;obtain ⟨v1,vs1,d1,ds1,p1,q1,rfl,rfl,rfl,h1,r1⟩:=trodAll_cons r0;obtain ⟨v2,vs2,d2,ds2,p2,q2,rfl,rfl,rfl,h2,r2⟩:=trodAll_cons r1;obtain ⟨v3,vs3,d3,ds3,p3,q3,rfl,rfl,rfl,h3,r3⟩:=trodAll_cons r2;obtain ⟨v4,vs4,d4,ds4,p4,q4,rfl,rfl,rfl,h4,r4⟩:=trodAll_cons r3;obtain ⟨v5,vs5,d5,ds5,p5,q5,rfl,rfl,rfl,h5,r5⟩:=trodAll_cons r4;obtain ⟨rfl,rfl,rfl⟩:=trodAll_nil r5;obtain rfl:args=#[v0,v1,v2,v3,v4,v5]:=by cases args;simp_all
 obtain ⟨rfl,rfl⟩:=trodVars_none hV;obtain ⟨cs0,rfl,_⟩:=okWide_struct Tryz.underlying26 (hval 0 26 v0 rfl rfl);have k0:=h0;have lt0:∀ x∈p0,x.block<W.heap.size:=by obtain ⟨m,hm⟩:=k0;exact DataW.trod_lt m _ _ _ hm
 obtain ⟨A,B,C,n,m,k,c,d,e,N,hcs0,hnet,hk⟩:∃ (A B C:Option Addr) (n m k c d e:Nat) (N:Qam),cs0=#[.slice A n c,.slice B m d,.slice C k e]∧Qce W A B C n m k N∧k≤9223372036854775807:=by
  exact Kcb
 subst hcs0;obtain ⟨cs1,rfl,_⟩:=okWide_struct Tryz.underlying29 (hval 1 29 v1 rfl rfl);have k1:=h1;have lt1:∀ x∈p1,x.block<W.heap.size:=by obtain ⟨m,hm⟩:=k1;exact DataW.trod_lt m _ _ _ hm
 obtain ⟨Q,L,cq,ls,hcs1,hpart,hLc⟩:∃ (Q:Option Addr) (L cq:Nat) (ls:List (List Int)),cs1=#[.slice Q L cq]∧RdT W Q L ls∧L≤9223372036854775807:=by
  exact Kcd
 subst hcs1;obtain ⟨a2,rfl,rfl,rfl,w2⟩:=open_int Tryz.underlying78 (hval 2 78 v2 rfl rfl) h2;have hb2:=bounds_u16 w2;obtain ⟨a3,rfl,rfl,rfl,w3⟩:=open_int Tryz.underlying78 (hval 3 78 v3 rfl rfl) h3;have hb3:=bounds_u16 w3;obtain ⟨a4,rfl,rfl,rfl,w4⟩:=open_int Tryz.underlying5 (hval 4 5 v4 rfl rfl) h4;have hb4:=bounds_u8 w4;obtain ⟨a5,rfl,rfl,rfl,w5⟩:=open_int Tryz.underlying5 (hval 5 5 v5 rfl rfl) h5;have hb5:=bounds_u8 w5;clear hA0 hval0;have hg:=Qgv hL;refine (Qlb A B C Q n m k c d e L cq N ls a2 a3 a4 a5 W hnet hk hpart hLc hb2 hb3 hb4 hb5 hg).mono fun e W' ⟨he,bel⟩=>?_
 subst he;exact ⟨_,rfl,_,_,_,[],_,[],hW',trodAll_mk1 (shut_bool Tryz.underlying4 _),(trodAll_cons_mk (Below.trod Qje (by kernel_rfl) (of_decide_eq_true (by kernel_rfl)) k0 bel lt0) (trodAll_cons_mk (Below.trod Qje (by kernel_rfl) (of_decide_eq_true (by kernel_rfl)) k1 bel lt1) (trodAll_cons_mk (shut_int Tryz.underlying78 w2) (trodAll_cons_mk (shut_int Tryz.underlying78 w3) (trodAll_cons_mk (shut_int Tryz.underlying5 w4) (trodAll_cons_mk (shut_int Tryz.underlying5 w5) trodAll_mk0)))))),rfl,bel.frame _,fun h=>by cases h⟩
theorem jf0:Rows.pathPartsRow.wf (OpenSpec.ofChange Rows.pathPartsSpec)=true:=by kernel_rfl
theorem jf1:laidOutB Tryz.prog=true:=by kernel_rfl
theorem jf2:mapsRowed Tryz.prog=true:=by kernel_rfl
theorem jf3:Tryz.f6.params.all (Tryz.prog.readableRec ·)=true:=by kernel_rfl
theorem jf4:namedTie Tryz.prog Rows.pathPartsRow.named Rows.pathPartsSpec.vars=true:=by kernel_rfl
theorem jf5:(Rows.pathPartsRow.stops == [])=true:=by kernel_rfl
theorem jf6:(Tryz.prog.stops == [])=true:=by kernel_rfl
theorem jf7:(Rows.pathPartsRow.knobs == [])=true:=by kernel_rfl
theorem jf8:(Tryz.prog.stopKnobs == [])=true:=by kernel_rfl
theorem jf9:(Rows.pathPartsRow.inPlace == Tryz.prog.inPlace 6)=true:=by kernel_rfl
theorem jf10:(Rows.pathPartsRow.unfollowed == Tryz.prog.unfollowed 6)=true:=by kernel_rfl
theorem jf11:(Rows.pathPartsRow.recurses == Tryz.prog.recurses 6)=true:=by kernel_rfl
theorem jf12:(Rows.pathPartsRow.named == Tryz.prog.varsNamed 6)=true:=by kernel_rfl
theorem jf13:(Rows.pathPartsRow.maps == (Tryz.f6.params.toList ++Rows.pathPartsSpec.plain.varTypes Tryz.prog).any (Tryz.prog.mapsRec ·))=true:=by kernel_rfl
theorem jf14:(Rows.pathPartsRow.ifaces == (Tryz.f6.params.toList ++Rows.pathPartsSpec.plain.varTypes Tryz.prog).any (Tryz.prog.ifacesRec ·))=true:=by kernel_rfl
theorem jf15:(Rows.pathPartsRow.mapsOut == Tryz.prog.mapsAmong Tryz.f6.resultTypes.toList)=true:=by kernel_rfl
theorem jf16:(Rows.pathPartsRow.loops == (Tryz.f6.params.toList ++Rows.pathPartsSpec.plain.varTypes Tryz.prog).any (Tryz.prog.loopsFrom ·))=true:=by kernel_rfl
theorem jf17:(Rows.pathPartsRow.wideKeys == (Tryz.f6.params.toList ++Rows.pathPartsSpec.plain.varTypes Tryz.prog ++Tryz.f6.resultTypes.toList).any (Tryz.prog.wideKeysFrom ·))=true:=by kernel_rfl
theorem jf18:Rows.pathPartsSpec.vars.all (Tryz.prog.varReadable ·)=true:=by kernel_rfl
theorem jf19:Tryz.f6.resultTypes.all (fun t=>Tryz.prog.readableRec t && decide (t<Tryz.prog.types.size))=true:=by kernel_rfl
theorem jf20:(Rows.pathPartsRow.ifacesOut == Tryz.f6.resultTypes.toList.any (Tryz.prog.ifacesRec ·))=true:=by kernel_rfl
theorem jf21:(Rows.pathPartsRow.loopsOut == Tryz.f6.resultTypes.toList.any (Tryz.prog.loopsFrom ·))=true:=by kernel_rfl
theorem jf22:(Rows.pathPartsRow.plainKeys == Tryz.prog.plainKeys)=true:=by kernel_rfl
theorem jf23:Rows.pathPartsRow.shortTexts.isNone=true:=by kernel_rfl
theorem jf24:Tryz.prog.stopsHeard=true:=by kernel_rfl
theorem jf25:Tryz.prog.mayEnter=true:=by kernel_rfl
theorem jf26:(Rows.pathPartsRow.lifted == Tryz.prog.liftsFinal)=true:=by kernel_rfl
theorem jf27:(Tryz.prog.make == some Rows.pathPartsRow.make)=true:=by kernel_rfl
theorem jf28:(Rows.pathPartsRow.kinds == (if Rows.pathPartsRow.domain.isEmpty then [] else Tryz.f6.params.toList.map fun t=>match Tryz.prog.underlying t with|some (.int k)=>some k|_=>none))=true:=by kernel_rfl
theorem jf29:(Rows.pathPartsRow.pinned == Rows.pathPartsRow.pinnedBy)=true:=by kernel_rfl
theorem jf30:(Rows.pathPartsRow.veiled == (Tryz.f6.params.toList ++Rows.pathPartsSpec.plain.varTypes Tryz.prog ++Tryz.f6.resultTypes.toList).any (Tryz.prog.veiledRec ·))=true:=by kernel_rfl
theorem jf31:Rows.pathPartsRow.veiledFits Tryz.prog Tryz.f6.params.toList (Tryz.f6.params.toList ++Rows.pathPartsSpec.plain.varTypes Tryz.prog ++Tryz.f6.resultTypes.toList)=true:=by kernel_rfl
set_option maxRecDepth 100000 in
theorem closed:joinedFacts Tryz.prog 6 Tryz.f6 Rows.pathPartsSpec Rows.pathPartsRow=true:=by
 exact Kar
theorem named : Tryz.prog.funcNamed "roundsman/roundsmanlaw22.PathParts" = some 6 := by kernel_rfl
theorem inst:Tryz.f6.isInstance Tryz.prog Rows.pathPartsRow.origin Rows.pathPartsRow.targs:=of_decide_eq_true (by kernel_rfl)
theorem wrap:Tryz.f6.isWrapper Tryz.prog Rows.pathPartsRow.wrapper Rows.pathPartsRow.mainSum:=by unfold Func.isWrapper;rw [if_neg (of_decide_eq_false (by kernel_rfl))];exact ⟨rfl,rfl⟩
theorem over:Rows.PathPartsSaid :=
 OpenClaim.holds_of_wide 6 Tryz.f6 rfl rfl rfl rfl rfl rfl rfl ⟨rfl,rfl,rfl,rfl,rfl⟩ rfl rfl rfl rfl rfl named Tryz.func6 closed inst wrap
  (fun os started H enc _=>lifted os started H enc)
theorem byText:Rows.pathPartsRow.wfByText (OpenSpec.ofChange Rows.pathPartsSpec)=true:=by kernel_rfl
theorem mainIs : Tryz.prog.mainIs = some (((true, "e050398fe6459b335d862d199e00ee26368d24a03f5a06a9ac40ea2e9df76a20") : Bool × String).1, ((true, "e050398fe6459b335d862d199e00ee26368d24a03f5a06a9ac40ea2e9df76a20") : Bool × String).2.toList) := by kernel_rfl
theorem looksL:true=Tryz.prog.looks []:=by kernel_rfl
theorem goes:false=Rows.pathPartsRow.goesBy Tryz.prog:=by kernel_rfl
theorem proved:Rows.PathPartsCardSaid :=
 Claim7.holds_tied_plain_at .later [] [.handle] true (true, "e050398fe6459b335d862d199e00ee26368d24a03f5a06a9ac40ea2e9df76a20") true
  over (fun _ h=>by cases h) byText (fun _ h=>by cases h) pathParts_row_tie rfl ⟨rfl,rfl⟩ mainIs rfl
  (fun f fn hf hfn=>by
   obtain rfl:f=6:=Yv (named.symm.trans hf) |>.symm
   obtain rfl:fn=Tryz.f6:=(Yv (Tryz.func6.symm.trans hfn)).symm
   exact ⟨looksL,fun j t ht=>by
    rw [Tryz.params6] at ht
    rcases j with _|_|_|_|_|_|j
    · obtain rfl:t=26:=by simpa using ht.symm
      exact (show Tryz.prog.wantsStandIn 26=false by kernel_rfl)
    · obtain rfl:t=29:=by simpa using ht.symm
      exact (show Tryz.prog.wantsStandIn 29=false by kernel_rfl)
    · obtain rfl:t=78:=by simpa using ht.symm
      exact (show Tryz.prog.wantsStandIn 78=false by kernel_rfl)
    · obtain rfl:t=78:=by simpa using ht.symm
      exact (show Tryz.prog.wantsStandIn 78=false by kernel_rfl)
    · obtain rfl:t=5:=by simpa using ht.symm
      exact (show Tryz.prog.wantsStandIn 5=false by kernel_rfl)
    · obtain rfl:t=5:=by simpa using ht.symm
      exact (show Tryz.prog.wantsStandIn 5=false by kernel_rfl)
    · simp at ht⟩)
  goes
#print axioms proved
end PathPartsDone
end Go.Proofs.YtdheeddnkdhfeaaGreatDoor
