/- Parts of the proof: Nt1, Nt2, Nt3, Nt4, Nt5, Nt6. -/
import Derived.Test.YteaoiabikjnkeaaGreatDoorC1
namespace Go.Proofs.YteaoiabikjnkeaaGreatDoor
open Go.RowKit Tryz
attribute [local go_sem ↓] Go.wp_at_zero Go.wp_at_succ
def Wg (B:Nat)(w:World)(A:Option Addr)(k c:Nat):Prop:=∃ xs,Own w B 149 2 A k c xs∧(∀ u∈xs,u.oneCell'=true)∧k≤1000000
theorem Wg.none (B:Nat)(w:World):Wg B w none 0 0:=⟨[],Own.nil _ _ _ _,by simp,by omega⟩
theorem Wg.setCell {B:Nat}{w:World}{A:Option Addr}{k c:Nat}(h:Wg B w A k c){a:Addr}(ha:a.block<B)(u:Value):Wg B (w.setCell a u) A k c:=by
 obtain ⟨xs,h1,h2⟩:=h;exact ⟨xs,ownsRow_setCell_below h1 ha u,h2⟩
theorem Wg.mono {B B':Nat}{w:World}{A:Option Addr}{k c:Nat}(h:Wg B w A k c)(hB:B'≤B):Wg B' w A k c:=by
 obtain ⟨xs,h1,h2⟩:=h;exact ⟨xs,h1.mono hB,h2⟩
theorem Wg.alloc {B:Nat}{w:World}{A:Option Addr}{k c:Nat}(h:Wg B w A k c)(o:Obj):Wg B (w.alloc o) A k c:=by
 obtain ⟨xs,h1,h2⟩:=h;exact ⟨xs,h1.alloc o,h2⟩
def Qcr (G:Prop)(B:Nat)(e:Ending)(w:World):Prop:=∃ (A:Option Addr) (k c:Nat) (x:Int),e=.returned (.agg #[.slice A k c,.int .i64 x])∧Wg B w A k c∧((x=0∧G)∨x≠0)
theorem Qcr.no {G:Prop}{B:Nat}{w:World}{A:Option Addr}{k c:Nat}{x:Int}(hg:Wg B w A k c)(hx:x≠0):Qcr G B (.returned (.agg #[.slice A k c,.int .i64 x])) w:=⟨A,k,c,x,rfl,hg,.inr hx⟩
def Qbt (G:Prop)(e:Ending):Prop:=∃ (A:Option Addr) (k c:Nat) (x:Int),e=.returned (.agg #[.slice A k c,.int .i64 x])∧((x=0∧G)∨x≠0)
theorem Qbt.no {G:Prop}{A:Option Addr}{k c:Nat}{x:Int}(hx:x≠0):Qbt G (.returned (.agg #[.slice A k c,.int .i64 x])):=⟨A,k,c,x,rfl,.inr hx⟩
def RetAgg (B:Nat)(x:Int)(e:Ending)(w:World):Prop:=∃ (A:Option Addr) (k c:Nat),e=.returned (.agg #[.slice A k c,.int .i64 x])∧Wg B w A k c
theorem Qax (s:ByteArray)(k c:Int)(w:World):Calls prog 50 #[.string s,.int .i64 k,.int .i64 c] w fun e w'=>RetAgg w.heap.size c e w'∧Below w.heap.size w w':=by
 go_enter func50,ntmps50
 go_wp2
 refine bodyPost_ret (v:=.agg #[.slice (some ⟨w.heap.size+1,0,none⟩) 1 1,.int .i64 c]) (by simp [results,results50,go_sem]) rfl ?_;refine ⟨⟨_,_,_,rfl,Wg.mono (B:=w.heap.size+1) ?_ (by omega)⟩,Qah⟩;have hz:∀ o,(w.alloc o).heap.size=w.heap.size+1:=fun o=>by show (w.heap.push o).size=_;exact Array.size_push ..
 have hO:=Own.lit (B:=w.heap.size+1) (s:=2) (e:=149) (w.alloc (.cells #[.slice (some ⟨w.heap.size+1,0,none⟩) 1 1,.int .i64 c] 48)) #[.string s,.int .i64 k] 1 (by rw [hz];exact Zn _) (by omega) rfl;rw [hz] at hO;refine ⟨_,hO,?_,by omega⟩;simp [Value.oneCell']
theorem Qwe {a:Int} (h:¬(0≤a∧a≤2147483648)):wOk a=(a == 1152921504606846976):=by
 unfold wOk
 have:(decide (0≤a) && decide (a≤2147483648))=false:=by
  cases e:(decide (0≤a) && decide (a≤2147483648))
  · rfl
  · simp only [Bool.and_eq_true,decide_eq_true_eq] at e;exact absurd e h
 rw [this,Bool.false_or]
 by_cases h2:a=1152921504606846976
 · simp [h2]
 · rw [decide_eq_false h2];symm;simpa using h2
theorem Qfe (a:Int)(w:World):Calls prog 148 #[.int .i64 a] w fun e w'=>e=.returned (.bool (wOk a))∧w=w':=by
 by_cases h0:0≤a
 · by_cases h1:a≤2147483648
   · go_enter func148,ntmps148
     go_wp2
     go_ret
     exact ⟨Qbh (by simp [wOk,h0,h1]),rfl⟩
   · go_enter func148,ntmps148
     go_wp2
     go_ret
     exact ⟨Qbh (Qwe (by omega)).symm,rfl⟩
 · go_enter func148,ntmps148
   go_wp2
   go_ret
   exact ⟨Qbh (Qwe (by omega)).symm,rfl⟩
theorem Qgh (a:Int)(w:World):Calls prog 151 #[.int .i64 a] w fun e w'=>e=.returned (.bool (wOk a))∧w=w':=by
 by_cases hI:a=1152921504606846976
 · subst hI
   go_enter func151,ntmps151
   go_wp2
   go_ret
   exact ⟨Qbh (by decide),rfl⟩
 · have h9:(a == 1152921504606846976)=false:=by simpa using hI
   have HI:=Zh hI;clear hI
   by_cases h0:0≤a
   · go_enter func151,ntmps151
     go_wp2
     go_ret
     exact ⟨Qbh (by unfold wOk;rw [decide_eq_true h0,decide_eq_false HI.out];simp),rfl⟩
   · go_enter func151,ntmps151
     go_wp2
     go_ret
     exact ⟨Qbh (by rw [Qwe (by omega)];exact h9.symm),rfl⟩
theorem Qoc (x:Int)(w:World):Calls prog 197 #[.int .i64 x] w fun e w'=>e=.returned (.bool (Qgg x))∧w=w':=by
 by_cases h1 : -1048576≤x
 all_goals
  go_enter func197,ntmps197
  go_wp2
  go_ret
  exact ⟨Qbh (by simp [Qgg];omega),rfl⟩
theorem far_ok (x:Int)(w:World)(h:Qgg x=true):Calls prog 199 #[.int .i64 x] w fun e w'=>e=.returned (.bool false)∧w=w':=by
 unfold Qgg at h;simp only [Bool.and_eq_true,decide_eq_true_eq] at h;obtain ⟨h1,h2⟩:=h
 go_enter func199,ntmps199
 go_wp2
 go_ret
 exact ⟨Qbh (by simp;omega),rfl⟩
theorem Qmw (A B C:Option Addr)(n m k c d e:Nat)(v:Int)(w:World)(h0:0≤v)(h1:v<n) :
 Calls prog 200 #[.agg #[.slice A n c,.slice B m d,.slice C k e],.int .i64 v] w fun e w'=>e=.returned (.bool true)∧Below w.heap.size w w':=by
 go_enter func200,ntmps200
 go_wp2
 go_ret
 exact ⟨rfl,Qah⟩
theorem Qsi (i o:Int)(w:World)(i0:0≤i)(i16:i≤16)(o0:0≤o)(o16:o≤16):Calls prog 180 #[.int .i64 i,.int .i64 o] w fun e w'=>e=.returned .nilIface∧w=w':=by
 go_enter func180,ntmps180
 go_wp2
 go_ret
 exact ⟨rfl,rfl⟩
theorem Qox {a b:Int}(a0:0≤a)(a16:a≤16)(b0:0≤b)(b16:b≤16):0≤a*b∧a*b≤256 :=
 ⟨Int.mul_nonneg a0 b0,by
  have h1:a*b≤16*b:=Int.mul_le_mul_of_nonneg_right a16 b0;omega⟩
set_option maxHeartbeats 1000000 in
theorem Qoq (A:Option Addr)(n c:Nat)(t:Qfh)(w:World)(h:RdI w A n t.costs)(ht:Qng t) :
 Calls prog 185 #[.agg #[.int .i64 t.ins,.int .i64 t.outs,.slice A n c]] w fun e w'=>e=.returned .nilIface∧Below w.heap.size w w':=by
 obtain ⟨i,o,cs⟩:=t;have i0:0≤i:=ht.i0;have i16:i≤16:=ht.i16;have o0:0≤o:=ht.o0;have o16:o≤16:=ht.o16;have hm:=Qox i0 i16 o0 o16;have hl:(cs.length:Int)=i*o:=ht.len;have h:RdI w A n cs:=h;rw [h.1] at hl;have hok:=ht.ok;simp only at hok;have HOK:=Zh hok;have HL:=Zh hl;have j1:IntKind.i64.wrap (i*o)=i*o:=IntWalk.i64_in _ (by omega);have j2:((n:Int) != i*o)=false:=by simpa using hl
 have j3:((n:Int) == i*o)=true:=by simpa using hl
 have HSD:=Zh (show ∀ V,Calls prog 180 #[.int .i64 i,.int .i64 o] V fun e w'=>e=.returned .nilIface∧V=w' from fun V=>Qsi i o V i0 i16 o0 o16)
 have hn:n≤256:=by omega
 clear hok hl ht
 go_enter func185,ntmps185
 go_wp2_with fail
 (refine Qad ?_;intro w1 hw1)
 have hb1:Below w.heap.size w w1:=by rw [hw1];exact Qah
 have hB1:Blk w1 w.heap.size 251 #[.int .i64 i,.int .i64 o,.slice A n c]:=by rw [hw1];exact Blk.new _ _ _
 clear hw1;with_reducible refine (HSD.out _).mono ?_
 rintro e w' ⟨rfl,rfl⟩;have c0:=hB1.cell 0;have c1:=hB1.cell 1;have c2:=hB1.cell 2;simp only [List.getElem?_toArray,List.getElem?_cons_zero,List.getElem?_cons_succ] at c0 c1 c2;have h1:=h.below hb1
 go_wp2_with fail
 go_loop [27] (fun q=>∃ k:Nat,k≤n∧q=.int .i64 k) (fun q=>n-(intOf q).toNat)
 case atStart=>exact ⟨0,Nat.zero_le _,rfl⟩
 case round =>
  obtain ⟨k,hk,rfl⟩:=hrel
  by_cases hlt:k<n
  · obtain ⟨b,oo,x,rfl,hx,hc⟩:=h1.at_ hlt
    have HW:=Zh (show ∀ V,Calls prog 151 #[.int .i64 x] V fun e w'=>e=.returned (.bool true)∧V=w' from fun V=>by
     have:=Qgh x V;rw [HOK.out x (Zm hx)] at this;exact this)
    have i1:(0:Int)≤(k:Int):=by omega
    have i2:(k:Int)<(n:Int):=by omega
    clear hx
    go_wp2_with fail
    with_reducible refine (HW.out _).mono ?_
    rintro e w' ⟨rfl,rfl⟩
    go_wp2_with fail
    go_round
    case rel=>exact ⟨k+1,by omega,by go_num⟩
    case measure=>simp [intOf];omega
  · go_wp2_with fail
    go_ret
    exact ⟨rfl,hb1⟩
theorem Blk.three {w:World}{g:Nat}{t:TypeId}{a b c:Value} (h:Blk w g t #[a,b,c]):w.cell? ⟨g,0,none⟩=some a∧w.cell? ⟨g,1,none⟩=some b∧w.cell? ⟨g,2,none⟩=some c :=
 ⟨Zq h,Zq h,Zq h⟩
def Qqt (f:Tri→Int)(l:List Tri)(n:Nat):List Int:=(List.range n).map (fun v:Nat=>((l.countP (fun a=>f a == (v:Int)):Nat):Int))
theorem Qim (f:Tri→Int)(l:List Tri)(n:Nat):(Qqt f l n).length=n:=by simp [Qqt]
theorem Qcu {f:Tri→Int}{l:List Tri}{n v:Nat}(h:v<n):(Qqt f l n)[v]?=some ((l.countP (fun a=>f a == (v:Int)):Nat):Int):=by
 unfold Qqt;rw [List.getElem?_map,List.getElem?_range h]
 rfl
theorem Qgw (f:Tri→Int)(n:Nat):Qcd (Qqt f [] n)=Qbg (.int .i64 0) n:=by
 rw [Qcz]
 congr 1
 apply List.ext_getElem?
 intro i
 rcases Nat.lt_or_ge i n with h|h
 · rw [Qcu h];simp [h]
 · rw [List.getElem?_eq_none (by rw [Qim];exact h),List.getElem?_eq_none (by simpa using h)]
theorem Qhk {f:Tri→Int}{l:List Tri}{n v k:Nat}{a:Tri} (ha:l[k]?=some a) (hv:f a=(v:Int)) (h:v<n) :
 (Qqt f (l.take k) n).set v ((((l.take k).countP (fun a=>f a == (v:Int)):Nat):Int)+1)=Qqt f (l.take (k+1)) n:=by
 apply List.ext_getElem?
 intro i;rw [List.take_succ_eq_append_getElem (Zs ha).1,(Zs ha).2]
 rcases Nat.lt_or_ge i n with hi|hi
 · rw [Qcu hi,List.countP_append]
   by_cases e:v=i
   · subst e
     rw [List.getElem?_set_self (by rw [Qim];exact h)];simp [hv]
   · rw [List.getElem?_set_ne e,Qcu hi]
     have:(f a == (i:Int))=false:=by rw [hv];simp;omega
     simp [this]
 · rw [List.getElem?_eq_none (by rw [List.length_set,Qim];exact hi),List.getElem?_eq_none (by rw [Qim];exact hi)]
theorem Qkd (f:Tri→Int)(l:List Tri)(k:Nat)(v:Int):(l.take k).countP (fun a=>f a == v)≤k:=Nat.le_trans List.countP_le_length (List.length_take_le _ _)
set_option maxHeartbeats 4000000 in
set_option maxRecDepth 100000 in
theorem meet_ok (A B C:Option Addr)(n m k c d e:Nat)(N:Qaq)(w:World)(h:Qca w A B C n m k N)(hN:Qaw N) :
 Calls prog 201 #[.agg #[.slice A n c,.slice B m d,.slice C k e]] w fun e w'=>e=.returned .nilIface∧Below w.heap.size w w':=by
 obtain ⟨hv,ha,ht⟩:=h;have HLV:=Zh hv.1;have HLA:=Zh ha.1;have HLT:=Zh ht.1;have hn:n≤4096:=by rw [←hv.1];exact hN.lv
 have hm:m≤16384:=by rw [←ha.1];exact hN.la
 have hmk:=Qcv n (by omega);have HN:=Zh hN;clear hN
 go_enter func201,ntmps201
 go_wp2_with fail
 (refine Qaj ?_;intro w1 hw1)
 have hb1:Below w.heap.size w w1:=by rw [hw1];exact Qah
 have hN1:Blk w1 w.heap.size 212 #[.slice A n c,.slice B m d,.slice C k e]:=by rw [hw1];exact Qbf
 have hI1:Blk w1 (w.heap.size+1) 3 (Qbg (.int .i64 0) n):=by rw [hw1];exact Qbf
 have hO1:Blk w1 (w.heap.size+1+1) 3 (Qbg (.int .i64 0) n):=by rw [hw1];exact Qbf
 clear hw1 hmk
 go_loopw [21] (fun q W=>∃ i:Nat,i≤m∧q=.int .i64 i∧Below w.heap.size w W∧Blk W w.heap.size 212 #[.slice A n c,.slice B m d,.slice C k e]∧Blk W (w.heap.size+1) 3 (Qcd (Qqt (·.2.1) (N.ar.take i) n))∧Blk W (w.heap.size+1+1) 3 (Qcd (Qqt (·.1) (N.ar.take i) n))) (fun q _=>m-(intOf q).toNat)
 case atStart=>exact ⟨0,Nat.zero_le _,rfl,hb1,hN1,by rw [List.take_zero,Qgw];exact hI1,by rw [List.take_zero,Qgw];exact hO1⟩
 case round =>
  clear hb1 hN1 hI1 hO1;obtain ⟨i,hi,rfl,hbl,hNN,hI,hO⟩:=hrel
  by_cases hlt:i<m
  · obtain ⟨b,o,x,y,z,rfl,hx,cx,cy,cz⟩:=(ha.below hbl).at_ hlt
    have hok:=HN.out.arcs _ (Zm hx);have f0:=hok.f0;have f1:=hok.f1;have g0:=hok.g0;have g1:=hok.g1;simp only at f0 f1 g0 g1;rw [HLV.out] at f1 g1;obtain ⟨u,rfl⟩:∃ u:Nat,x=u:=⟨x.toNat,by omega⟩;obtain ⟨v,rfl⟩:∃ v:Nat,y=v:=⟨y.toNat,by omega⟩;have hu:u<n:=by omega
    have hvn:v<n:=by omega
    have hx1:=Qhk (f:=(·.2.1)) (n:=n) (v:=v) hx rfl hvn;have hx2:=Qhk (f:=(·.1)) (n:=n) (v:=u) hx rfl hu;have c1:=hI.cellI (Qcu (f:=(·.2.1)) (l:=N.ar.take i) hvn);have c2:=hO.cellI (Qcu (f:=(·.1)) (l:=N.ar.take i) hu);have d1:=Qkd (·.2.1) N.ar i v;have d2:=Qkd (·.1) N.ar i u;have HX1:=Zh hx1;have HX2:=Zh hx2;clear hx1 hx2;generalize (N.ar.take i).countP (fun a=>a.2.1 == (v:Int))=p at *;generalize (N.ar.take i).countP (fun a=>a.1 == (u:Int))=q at *;have q1:=hI.frozen v;have q2:=hO.frozen u;have z1:=hI.lt;have z2:=hO.lt;have i1:(0:Int)≤(i:Int):=by omega
    have i2:(i:Int)<(m:Int):=by omega
    have hz:=hbl.size;obtain ⟨W2,hW2⟩:∃ W2,W2=((wr.setCell ⟨w.heap.size+1,v,none⟩ (.int .i64 ((p:Int)+1))).setCell ⟨w.heap.size+1+1,u,none⟩ (.int .i64 ((q:Int)+1))).alloc (.cells #[.int .i64 u,.int .i64 v,.int .i64 z] 245):=⟨_,rfl⟩;have HW2:=Zh hW2;have hb2:Below w.heap.size w W2:=by rw [hW2];exact Bel.alloc ((hbl.setCell (by simp only;omega) _).setCell (by simp only;omega) _)
    have hN2:Blk W2 w.heap.size 212 #[.slice A n c,.slice (some ⟨b,o,none⟩) m d,.slice C k e]:=by rw [hW2];exact Qge
    have hI2:Blk W2 (w.heap.size+1) 3 (Qcd (Qqt (·.2.1) (N.ar.take (i+1)) n)):=by
     rw [hW2];exact ((hI.setI HX1.out).far_ (by omega) _).alloc _
    have hO2:Blk W2 (w.heap.size+1+1) 3 (Qcd (Qqt (·.1) (N.ar.take (i+1)) n)):=by
     rw [hW2];exact (Blk.setI (hO.far_ (by omega) _) HX2.out).alloc _
    have HI2:=Zh hI2;have HO2:=Zh hO2;have HN2:=Zh hN2;clear hW2 hx hok hI hO hNN hI2 hO2 hN2
    go_wp2_with fail
    rw [←HW2.out]
    go_roundw
    case rel=>exact ⟨i+1,by omega,by go_num,hb2,HN2.out,HI2.out,HO2.out⟩
    case measure=>simp [intOf];omega
  · obtain rfl:i=m:=by omega
    rw [List.take_of_length_le (by rw [HLA.out];exact Zn _)] at hI hO;obtain ⟨w2,hw2⟩:∃ w2,w2=wr:=⟨_,rfl⟩;subst hw2;obtain ⟨n0,n1,n2⟩:=hNN.three
    go_wp2_with fail
    clear n0 n1 n2;have hv2:=hv.below hbl;have ht2:=ht.below hbl
    go_loopw [43] (fun q W=>∃ j:Nat,j≤n∧q=.int .i64 j∧Below w2.heap.size w2 W) (fun q _=>n-(intOf q).toNat)
    case atStart=>exact ⟨0,Nat.zero_le _,rfl,Zr _ _⟩
    case round =>
     obtain ⟨j,hj,rfl,hb2⟩:=hrel
     by_cases hlt2:j<n
     · obtain ⟨b,o,x,y,z,rfl,hx,cx,cy,cz⟩:=(hv2.below hb2).at_ hlt2
       have hok:=HN.out.verts _ (Zm hx);have t0:=hok.t0;have t1:=hok.t1;simp only at t0 t1;rw [HLT.out] at t1;obtain ⟨u,rfl⟩:∃ u:Nat,z=u:=⟨z.toNat,by omega⟩;have hu:u<k:=by omega
       obtain ⟨b',o',t,rfl,htt,k0,k1,A',n',c',k2,_,_,_⟩:=(ht2.below hb2).at_ hu;have hm1:=HN.out.meet j _ t hx (by simpa using htt);have hT:=HN.out.tabs t (Zm htt);have m1:(cntTo N.ar j:Int)=t.ins:=hm1.1;have m2:(cntFr N.ar j:Int)=t.outs:=hm1.2;have b1:=hT.i16;have b2:=hT.o16;have b3:=hT.i0;have b4:=hT.o0;have hIr:=hI.below hb2 hI.lt;have hOr:=hO.below hb2 hO.lt;have hNr:=hNN.below hb2 hNN.lt;obtain ⟨_,_,n2⟩:=hNr.three;have c1:=hIr.cellI (Qcu (f:=(·.2.1)) (l:=N.ar) hlt2);have c2:=hOr.cellI (Qcu (f:=(·.1)) (l:=N.ar) hlt2);have HC:=Zh (show ∀ V,Below wr.heap.size wr V→V.cell? ⟨w.heap.size+1,j,none⟩=some (.int .i64 ((N.ar.countP (fun a=>a.2.1 == (j:Int)):Nat):Int))∧V.cell? ⟨w.heap.size+1+1,j,none⟩=some (.int .i64 ((N.ar.countP (fun a=>a.1 == (j:Int)):Nat):Int)) from fun V hV=>⟨Zc hV (Zn _) c1,Zc hV (Zn _) c2⟩)
       unfold cntTo at m1;unfold cntFr at m2;generalize N.ar.countP (fun a=>a.2.1 == (j:Int))=p at *;generalize N.ar.countP (fun a=>a.1 == (j:Int))=q at *;obtain ⟨ti,to_,tc⟩:=t;simp only at m1 m2 b1 b2 b3 b4 k0 k1;subst m1;subst m2;have z0:=hNr.lt;have z1:=hIr.lt;have z2:=hOr.lt;have i1:(0:Int)≤(j:Int):=by omega
       have i2:(j:Int)<(n:Int):=by omega
       have i3:(0:Int)≤(u:Int):=by omega
       have i4:(u:Int)<(k:Int):=by omega
       have zb:b'<wr.heap.size:=Qal k0
       clear hx hok htt hm1 hT hNr
       go_wp2_with fail
       (refine Qaj ?_;intro w3 hw3)
       have hb3:Below wr.heap.size wr w3:=by rw [hw3];exact Qah
       have hT3:Blk w3 (wr.heap.size+1) 251 #[.int .i64 p,.int .i64 q,.slice A' n' c']:=by rw [hw3];exact Qbf
       obtain ⟨c1',c2'⟩:=HC.out w3 hb3;obtain ⟨t0',t1',t2'⟩:=hT3.three;clear hw3 c1 c2 cx cy cz k0 k1 k2 n2;have d1:(((p:Nat):Int) != ((p:Nat):Int))=false:=by simp
       have d2:(((q:Nat):Int) != ((q:Nat):Int))=false:=by simp
       go_wp2_with fail
       go_quiet (fail)
       go_wp2_with fail
       go_roundw
       case rel=>exact ⟨j+1,by omega,by go_num,Qbe (Zb hb2 hb3) _⟩
       case measure=>simp [intOf];omega
     · go_wp2_with fail
       go_ret
       exact ⟨rfl,Zb hbl hb2⟩
set_option maxHeartbeats 4000000 in
set_option maxRecDepth 100000 in
theorem Qqw (A B C:Option Addr)(n m k c d e:Nat)(N:Qaq)(w:World)(h:Qca w A B C n m k N)(hN:Qaw N) :
 Calls prog 163 #[.agg #[.slice A n c,.slice B m d,.slice C k e]] w fun e w'=>e=.returned .nilIface∧Below w.heap.size w w':=by
 have HH:=Zh h;have HLV:=Zh h.1.1;have HLA:=Zh h.2.1.1;have HLT:=Zh h.2.2.1;have hn:n≤4096:=by rw [←h.1.1];exact hN.lv
 have hm:m≤16384:=by rw [←h.2.1.1];exact hN.la
 have hk:k≤256:=by rw [←h.2.2.1];exact hN.lt
 have j0:¬(n:Int) > 4096:=by omega
 have j1:¬(m:Int) > 16384:=by omega
 have j2:¬(k:Int) > 256:=by omega
 have HN:=Zh hN;clear hN h
 go_enter func163,ntmps163
 go_wp2_with fail
 (refine Qaj ?_;intro w1 hw1)
 have hb1:Below w.heap.size w w1:=by rw [hw1];exact Qah
 have hN1:Blk w1 w.heap.size 212 #[.slice A n c,.slice B m d,.slice C k e]:=by rw [hw1];exact Blk.new _ _ _
 have H1:=Zh (HH.out.below hb1);clear hw1 j0 j1 j2
 go_loopw [34] (fun q W=>∃ i:Nat,i≤k∧q=.int .i64 i∧Below w1.heap.size w1 W) (fun q _=>k-(intOf q).toNat)
 case atStart=>exact ⟨0,Nat.zero_le _,rfl,Zr _ _⟩
 case round =>
  obtain ⟨i,hi,rfl,hbl⟩:=hrel
  by_cases hlt:i<k
  · obtain ⟨b,o,t,rfl,ht,k0,k1,A',n',c',k2,hr,_,_⟩:=(H1.out.2.2.below hbl).at_ hlt
    have i1:(0:Int)≤(i:Int):=by omega
    have i2:(i:Int)<(k:Int):=by omega
    have hT:=HN.out.tabs t (Zm ht);have HTC:=Zh (show ∀ V,Below wr.heap.size wr V→Calls prog 185 #[.agg #[.int .i64 t.ins,.int .i64 t.outs,.slice A' n' c']] V fun e w'=>e=.returned .nilIface∧Below V.heap.size V w' from fun V hV=>Qoq A' n' c' t V (hr.below hV) hT)
    clear ht hT
    go_wp2_with fail
    (refine Qad ?_;intro w2 hw2)
    have hb2:Below wr.heap.size wr w2:=by rw [hw2];exact Qah
    clear hw2;with_reducible refine (HTC.out w2 hb2).mono ?_
    rintro e w3 ⟨rfl,hb3⟩
    go_wp2_with fail
    go_roundw
    case rel=>exact ⟨i+1,by omega,by go_num,Zb hbl (Zb hb2 hb3)⟩
    case measure=>simp [intOf];omega
  · obtain ⟨w2,hw2⟩:∃ w2,w2=wr:=⟨_,rfl⟩
    subst hw2;obtain ⟨n0,n1,n2⟩:=(hN1.below hbl hN1.lt).three
    go_wp2_with fail
    clear n0 n1 n2
    go_loopw [50] (fun q W=>∃ j:Nat,j≤n∧q=.int .i64 j∧Below w1.heap.size w1 W) (fun q _=>n-(intOf q).toNat)
    case atStart=>exact ⟨0,Nat.zero_le _,rfl,hbl⟩
    case round =>
     clear hbl;obtain ⟨j,hj,rfl,hbl⟩:=hrel;have hNr:=hN1.below hbl hN1.lt;obtain ⟨n0,n1,n2⟩:=hNr.three;have zz:=hNr.lt
     by_cases hlt2:j<n
     · obtain ⟨b,o,x,y,z,rfl,hx,cx,cy,cz⟩:=(H1.out.1.below hbl).at_ hlt2
       have hok:=HN.out.verts _ (Zm hx);have t0:=hok.t0;have t1:=hok.t1;simp only at t0 t1;rw [HLT.out] at t1;have HF1:=Zh (show ∀ V,Calls prog 199 #[.int .i64 x] V fun e w'=>e=.returned (.bool false)∧V=w' from fun V=>far_ok x V hok.x)
       have HF2:=Zh (show ∀ V,Calls prog 199 #[.int .i64 y] V fun e w'=>e=.returned (.bool false)∧V=w' from fun V=>far_ok y V hok.y)
       have i1:(0:Int)≤(j:Int):=by omega
       have i2:(j:Int)<(n:Int):=by omega
       have t2:¬z<0:=by omega
       have t3:¬z ≥ (k:Int):=by omega
       clear hx hok hNr
       go_wp2_with fail
       with_reducible refine (HF1.out _).mono ?_
       rintro e w' ⟨rfl,rfl⟩
       go_wp2_with fail
       with_reducible refine (HF2.out _).mono ?_
       rintro e w' ⟨rfl,rfl⟩
       go_wp2_with fail
       go_roundw
       case rel=>exact ⟨j+1,by omega,by go_num,Bel.alloc hbl⟩
       case measure=>simp [intOf];omega
     · obtain ⟨w3,hw3⟩:∃ w3,w3=wr:=⟨_,rfl⟩
       subst hw3;clear zz hNr
       go_wp2_with fail
       clear n0 n1 n2
       go_loopw [86] (fun q W=>∃ j:Nat,j≤m∧q=.int .i64 j∧Below w1.heap.size w1 W) (fun q _=>m-(intOf q).toNat)
       case atStart=>exact ⟨0,Nat.zero_le _,rfl,hbl⟩
       case round =>
        clear hbl;obtain ⟨q,hq,rfl,hbl⟩:=hrel;have hNr:=hN1.below hbl hN1.lt;obtain ⟨n0,n1,n2⟩:=hNr.three;have zz:=hNr.lt
        by_cases hlt3:q<m
        · obtain ⟨b,o,x,y,z,rfl,hx,cx,cy,cz⟩:=(H1.out.2.1.below hbl).at_ hlt3
          have hok:=HN.out.arcs _ (Zm hx);have HV1:=Zh (show ∀ V,Calls prog 200 #[.agg #[.slice A n c,.slice (some ⟨b,o,none⟩) m d,.slice C k e],.int .i64 x] V fun e w'=>e=.returned (.bool true)∧Below V.heap.size V w' from fun V=>Qmw A _ C n m k c d e x V hok.f0 (by have:=hok.f1;rw [HLV.out] at this;exact this))
          have HV2:=Zh (show ∀ V,Calls prog 200 #[.agg #[.slice A n c,.slice (some ⟨b,o,none⟩) m d,.slice C k e],.int .i64 y] V fun e w'=>e=.returned (.bool true)∧Below V.heap.size V w' from fun V=>Qmw A _ C n m k c d e y V hok.g0 (by have:=hok.g1;rw [HLV.out] at this;exact this))
          have HW:=Zh (show ∀ V,Calls prog 151 #[.int .i64 z] V fun e w'=>e=.returned (.bool true)∧V=w' from fun V=>by
           have:=Qgh z V;rw [hok.w] at this;exact this)
          have i1:(0:Int)≤(q:Int):=by omega
          have i2:(q:Int)<(m:Int):=by omega
          clear hx hok
          go_wp2_with fail
          (refine Qad ?_;intro w4 hw4)
          have hb4:Below wr.heap.size wr w4:=by rw [hw4];exact Qah
          have hA4:Blk w4 wr.heap.size 245 #[.int .i64 x,.int .i64 y,.int .i64 z]:=by rw [hw4];exact Qbf
          clear hw4;with_reducible refine (HV1.out w4).mono ?_
          rintro e w5 ⟨rfl,hb5⟩;have hb45:Below wr.heap.size wr w5:=Zb hb4 hb5;have hA5:=hA4.below hb5 hA4.lt;have hN5:=hNr.below hb45 hNr.lt;clear n0 n1 n2;obtain ⟨n0,n1,n2⟩:=hN5.three;obtain ⟨a0,a1,a2⟩:=hA5.three;clear hA4 hb4 hb5
          go_wp2_with fail
          with_reducible refine (HV2.out w5).mono ?_
          rintro e w6 ⟨rfl,hb6⟩;have hb46:Below wr.heap.size wr w6:=Zb hb45 hb6;obtain ⟨_,_,a2'⟩:=(hA5.below hb6 hA5.lt).three;clear a0 a1 a2 n0 n1 n2 hb6 hb45
          go_wp2_with fail
          with_reducible refine (HW.out _).mono ?_
          rintro e w' ⟨rfl,rfl⟩
          go_wp2_with fail
          go_roundw
          case rel=>exact ⟨q+1,by omega,by go_num,Zb hbl hb46⟩
          case measure=>simp [intOf];omega
        · have HM:=Zh (meet_ok A B C n m k c d e N wr (H1.out.below hbl) HN.out)
          clear zz hNr
          go_wp2_with fail
          with_reducible refine HM.out.mono ?_
          rintro e w4 ⟨rfl,hb4⟩
          go_wp2_with fail
          go_ret
          exact ⟨rfl,Zb hb1 (Zb hbl hb4)⟩
set_option maxHeartbeats 1000000 in
theorem Qhy (A:Option Addr)(n c:Nat)(t:Qfh)(w:World)(h:RdI w A n t.costs)(hn:n≤9223372036854775807) :
 Calls prog 196 #[.agg #[.int .i64 t.ins,.int .i64 t.outs,.slice A n c]] w fun e w'=>Qcr (Qng t) w.heap.size e w'∧Below w.heap.size w w':=by
 obtain ⟨i,o,cs⟩:=t;have h:RdI w A n cs:=h;simp only
 by_cases i0:i<0
 · go_enter func196,ntmps196
   go_wp2_with fail
   (refine Qad ?_;intro w5 hw5)
   have hB5:Blk w5 (w.heap.size+1) 48 #[.slice none 0 0,.int .i64 0]:=by rw [hw5];exact Qbf
   have hb5:Below w.heap.size w w5:=by rw [hw5];exact Qah
   clear hw5;with_reducible refine (Qax _ _ _ _).mono ?_
   rintro e w2 ⟨⟨A4,n4,m4,rfl,hg4⟩,hb⟩;have hB2:=Blk.below hB5 hb hB5.lt;obtain ⟨c0,c1,f0,f1⟩:=hB2.two;have hb2:Below w.heap.size w w2:=Zb hb5 hb
   go_wp2_with fail
   refine bodyPost_ret (v:=.agg #[.slice A4 n4 m4,.int .i64 1]) (by simp [results,results196,go_sem,c0,c1]) rfl ?_
   first | exact ⟨Qbt.no (by decide),Qah⟩ | exact ⟨Qcr.no (Wg.mono (B:=w5.heap.size) (Wg.setCell (Wg.setCell hg4 hB5.lt _) hB5.lt _) hb5.size) (by decide),Qah⟩
 by_cases i1:i > 16
 · go_enter func196,ntmps196
   go_wp2_with fail
   (refine Qad ?_;intro w5 hw5)
   have hB5:Blk w5 (w.heap.size+1) 48 #[.slice none 0 0,.int .i64 0]:=by rw [hw5];exact Qbf
   have hb5:Below w.heap.size w w5:=by rw [hw5];exact Qah
   clear hw5;with_reducible refine (Qax _ _ _ _).mono ?_
   rintro e w2 ⟨⟨A4,n4,m4,rfl,hg4⟩,hb⟩;have hB2:=Blk.below hB5 hb hB5.lt;obtain ⟨c0,c1,f0,f1⟩:=hB2.two;have hb2:Below w.heap.size w w2:=Zb hb5 hb
   go_wp2_with fail
   refine bodyPost_ret (v:=.agg #[.slice A4 n4 m4,.int .i64 1]) (by simp [results,results196,go_sem,c0,c1]) rfl ?_
   first | exact ⟨Qbt.no (by decide),Qah⟩ | exact ⟨Qcr.no (Wg.mono (B:=w5.heap.size) (Wg.setCell (Wg.setCell hg4 hB5.lt _) hB5.lt _) hb5.size) (by decide),Qah⟩
 by_cases o0:o<0
 · go_enter func196,ntmps196
   go_wp2_with fail
   (refine Qad ?_;intro w5 hw5)
   have hB5:Blk w5 (w.heap.size+1) 48 #[.slice none 0 0,.int .i64 0]:=by rw [hw5];exact Qbf
   have hb5:Below w.heap.size w w5:=by rw [hw5];exact Qah
   clear hw5;with_reducible refine (Qax _ _ _ _).mono ?_
   rintro e w2 ⟨⟨A4,n4,m4,rfl,hg4⟩,hb⟩;have hB2:=Blk.below hB5 hb hB5.lt;obtain ⟨c0,c1,f0,f1⟩:=hB2.two;have hb2:Below w.heap.size w w2:=Zb hb5 hb
   go_wp2_with fail
   refine bodyPost_ret (v:=.agg #[.slice A4 n4 m4,.int .i64 1]) (by simp [results,results196,go_sem,c0,c1]) rfl ?_
   first | exact ⟨Qbt.no (by decide),Qah⟩ | exact ⟨Qcr.no (Wg.mono (B:=w5.heap.size) (Wg.setCell (Wg.setCell hg4 hB5.lt _) hB5.lt _) hb5.size) (by decide),Qah⟩
 by_cases o1:o > 16
 · go_enter func196,ntmps196
   go_wp2_with fail
   (refine Qad ?_;intro w5 hw5)
   have hB5:Blk w5 (w.heap.size+1) 48 #[.slice none 0 0,.int .i64 0]:=by rw [hw5];exact Qbf
   have hb5:Below w.heap.size w w5:=by rw [hw5];exact Qah
   clear hw5;with_reducible refine (Qax _ _ _ _).mono ?_
   rintro e w2 ⟨⟨A4,n4,m4,rfl,hg4⟩,hb⟩;have hB2:=Blk.below hB5 hb hB5.lt;obtain ⟨c0,c1,f0,f1⟩:=hB2.two;have hb2:Below w.heap.size w w2:=Zb hb5 hb
   go_wp2_with fail
   refine bodyPost_ret (v:=.agg #[.slice A4 n4 m4,.int .i64 1]) (by simp [results,results196,go_sem,c0,c1]) rfl ?_
   first | exact ⟨Qbt.no (by decide),Qah⟩ | exact ⟨Qcr.no (Wg.mono (B:=w5.heap.size) (Wg.setCell (Wg.setCell hg4 hB5.lt _) hB5.lt _) hb5.size) (by decide),Qah⟩
 have hm:=Qox (a:=i) (b:=o) (by omega) (by omega) (by omega) (by omega);have j1:IntKind.i64.wrap (i*o)=i*o:=IntWalk.i64_in _ (by omega)
 by_cases hl:(n:Int)=i*o
 rotate_left
 · have j2:((n:Int) != i*o)=true:=by simpa using hl
   have j3:((n:Int) == i*o)=false:=by simpa using hl
   clear hl
   go_enter func196,ntmps196
   go_wp2_with fail
   (refine Qad ?_;intro w5 hw5)
   have hB5:Blk w5 (w.heap.size+1) 48 #[.slice none 0 0,.int .i64 0]:=by rw [hw5];exact Qbf
   have hb5:Below w.heap.size w w5:=by rw [hw5];exact Qah
   clear hw5;with_reducible refine (Qax _ _ _ _).mono ?_
   rintro e w2 ⟨⟨A4,n4,m4,rfl,hg4⟩,hb⟩;have hB2:=Blk.below hB5 hb hB5.lt;obtain ⟨c0,c1,f0,f1⟩:=hB2.two;have hb2:Below w.heap.size w w2:=Zb hb5 hb
   go_wp2_with fail
   refine bodyPost_ret (v:=.agg #[.slice A4 n4 m4,.int .i64 9]) (by simp [results,results196,go_sem,c0,c1]) rfl ?_
   first | exact ⟨Qbt.no (by decide),Qah⟩ | exact ⟨Qcr.no (Wg.mono (B:=w5.heap.size) (Wg.setCell (Wg.setCell hg4 hB5.lt _) hB5.lt _) hb5.size) (by decide),Qah⟩
 have j2:((n:Int) != i*o)=false:=by simpa using hl
 have j3:((n:Int) == i*o)=true:=by simpa using hl
 have hn:n≤256:=by omega
 have HL:=Zh hl;clear hl
 go_enter func196,ntmps196
 go_wp2_with fail
 (refine Qaj ?_;intro w1 hw1)
 have hb1:Below w.heap.size w w1:=by rw [hw1];exact Qah
 have hT1:Blk w1 w.heap.size 155 #[.int .i64 i,.int .i64 o,.slice A n c]:=by rw [hw1];exact Qbf
 have hB1:Blk w1 (w.heap.size+1) 48 #[.slice none 0 0,.int .i64 0]:=by rw [hw1];exact Qbf
 clear hw1
 go_loopw [3] (fun q W=>∃ k:Nat,k≤n∧q=.int .i64 k∧Below w.heap.size w W∧Blk W w.heap.size 155 #[.int .i64 i,.int .i64 o,.slice A n c]∧Blk W (w.heap.size+1) 48 #[.slice none 0 0,.int .i64 0]∧∀ j x,j<k→cs[j]?=some x→wOk x=true) (fun q _=>n-(intOf q).toNat)
 case atStart=>exact ⟨0,Nat.zero_le _,rfl,hb1,hT1,hB1,fun _ _ h=>absurd h (Nat.not_lt_zero _)⟩
 case round =>
  clear hb1 hT1 hB1;obtain ⟨k,hk,rfl,hbl,hT,hB,hall⟩:=hrel;have HA:=Zh hall;clear hall;obtain ⟨t0,t1,t2⟩:=hT.three;have zT:=hT.lt
  by_cases hlt:k<n
  · obtain ⟨b,oo,x,rfl,hx,hc⟩:=(h.below hbl).at_ hlt
    have i2:(0:Int)≤(k:Int):=by omega
    have i3:(k:Int)<(n:Int):=by omega
    have HX:=Zh hx;clear hx
    cases hw:wOk x
    · have HW:=Zh (show ∀ V,Calls prog 148 #[.int .i64 x] V fun e w'=>e=.returned (.bool false)∧V=w' from fun V=>by
       have:=Qfe x V;rw [hw] at this;exact this)
      go_wp2_with fail
      with_reducible refine (HW.out _).mono ?_
      rintro e w' ⟨rfl,rfl⟩
      go_wp2_with fail
      (refine Qad ?_;intro w5 hw5)
      have hB5:Blk w5 (w.heap.size+1) 48 #[.slice none 0 0,.int .i64 0]:=by rw [hw5];exact Qbf
      have hb5:Below w.heap.size w w5:=by rw [hw5];exact Qah
      clear hw5;with_reducible refine (Qax _ _ _ _).mono ?_
      rintro e w2 ⟨⟨A4,n4,m4,rfl,hg4⟩,hb⟩;have hB2:=Blk.below hB5 hb hB5.lt;obtain ⟨c0,c1,f0,f1⟩:=hB2.two;have hb2:Below w.heap.size w w2:=Zb hb5 hb
      go_wp2_with fail
      refine bodyPost_ret (v:=.agg #[.slice A4 n4 m4,.int .i64 8]) (by simp [results,results196,go_sem,c0,c1]) rfl ?_
      first | exact ⟨Qbt.no (by decide),Qah⟩ | exact ⟨Qcr.no (Wg.mono (B:=w5.heap.size) (Wg.setCell (Wg.setCell hg4 hB5.lt _) hB5.lt _) hb5.size) (by decide),Qah⟩
    · have HW:=Zh (show ∀ V,Calls prog 148 #[.int .i64 x] V fun e w'=>e=.returned (.bool true)∧V=w' from fun V=>by
       have:=Qfe x V;rw [hw] at this;exact this)
      have HW2:=Zh hw;clear hw
      go_wp2_with fail
      with_reducible refine (HW.out _).mono ?_
      rintro e w' ⟨rfl,rfl⟩
      go_wp2_with fail
      go_roundw
      case rel =>
       refine ⟨k+1,by omega,by go_num,hbl,hT,hB,fun j y hj hy=>?_⟩
       by_cases e:j=k
       · subst e
         rw [HX.out] at hy
         cases hy
         exact HW2.out
       · exact HA.out j y (by omega) hy
      case measure=>simp [intOf];omega
  · obtain rfl:k=n:=by omega
    have zB:=hB.lt;obtain ⟨c0,c1,f0,f1⟩:=hB.two
    go_wp2_with fail
    refine bodyPost_ret (v:=.agg #[.slice none 0 0,.int .i64 0]) (by simp [results,results196,go_sem,c0,c1]) rfl ?_;refine ⟨⟨_,_,_,_,rfl,Wg.none _ _,.inl ⟨rfl,⟨by simp only;omega,by simp only;omega,by simp only;omega,by simp only;omega,?_,?_⟩⟩⟩,Qah⟩
    · simp only
      rw [h.1];exact HL.out
    · intro y hy
      obtain ⟨j,hj⟩:=List.getElem?_of_mem hy;exact HA.out j y (by rw [←h.1];exact (Zs hj).1) hj
theorem infoPart:(Tryz.prog.info? 149).map (fun i=>(i.zero,i.size,i.bytes))=some (some (.agg #[.string ⟨#[]⟩,.int .i64 0]),2,24):=by kernel_rfl
set_option maxHeartbeats 1000000 in
theorem Qmo (s:ByteArray)(at_:Int)(A:Option Addr)(k c B:Nat)(x:Int)(w:World)(hx:x≠0)(hg:Wg B w A k c) :
 Calls prog 153 #[.string s,.int .i64 at_,.agg #[.slice A k c,.int .i64 x]] w fun e w'=>(∃ A' k' c',e=.returned (.agg #[.slice A' k' c',.int .i64 x]))∧Below w.heap.size w w':=by
 obtain ⟨xs,ho,hone,hk⟩:=hg;have hr:=ho.rds;have HR:=Zh hr;have HO:=Zh hone;clear ho hone hr
 go_enter func153,ntmps153
 go_wp2_with fail
 (refine Qaj ?_;intro w1 hw1)
 have hb1:Below w.heap.size w w1:=by rw [hw1];exact Qah
 have hT1:Blk w1 w.heap.size 48 #[.slice A k c,.int .i64 x]:=by rw [hw1];exact Qbf
 have hB1:Blk w1 (w.heap.size+1) 48 #[.slice none 0 0,.int .i64 0]:=by rw [hw1];exact Qbf
 have hz1:w1.heap.size=w.heap.size+1+1:=by rw [hw1];simp
 clear hw1;obtain ⟨t0,t1,_,_⟩:=hT1.two
 go_wp2_with fail
 have hb0:Below (w.heap.size+1) w1 w1.drew:=(Zr _ _).drew;have HSX:=Zh (show ∀ V,Below (w.heap.size+1) w1 V→V.cell? ⟨w.heap.size,0,none⟩=some (.slice A k c)∧V.cell? ⟨w.heap.size,1,none⟩=some (.int .i64 x) from fun V hV=>⟨(hV.cell (Nat.lt_succ_self _)).trans t0,(hV.cell (Nat.lt_succ_self _)).trans t1⟩)
 refine wp_region_held_drew (S:=fun V=>Below (w.heap.size+1) w1 V) (by kernel_rfl) hb0 (fun _=>?_);refine tz 0 11 ?_;refine tz 1 12 ?_;refine tz 2 13 ?_;refine tz 4 15 ?_;refine tz 5 16 ?_;refine tz 7 18 ?_;refine tz 8 19 ?_;refine Zk 3 (fun K hK=>?_);go_simp;obtain ⟨W,hW⟩:∃ W,W=(w1.alloc (.cells #[.string s,.int .i64 at_] 149)).drew:=⟨_,rfl⟩;rw [←hW]
 have hownW:Own W (w.heap.size+1+1) 149 2 (some ⟨w1.heap.size,0,none⟩) 1 1 [.string s,.int .i64 at_]:=by
  rw [hW];exact Own.drew (Own.lit w1 #[.string s,.int .i64 at_] 1 (by omega) (by omega) rfl)
 rw [hz1] at hownW;have hbW:Below (w.heap.size+1) w1 W:=by rw [hW];exact ((Zr _ _).alloc (by omega) _).drew
 have hB2:Blk W (w.heap.size+1) 48 #[.slice none 0 0,.int .i64 0]:=by rw [hW];exact Qge
 have hrW:Rds W 2 A k xs:=HR.out.below (hb1.trans (hbW.mono (by omega)));have hzW:w.heap.size+1+1≤W.heap.size:=by have:=hbW.size;omega
 have hbwW:Below w.heap.size w W:=hb1.trans (hbW.mono (by omega));clear hW;refine hK.out _ _ hbW (fun _=>?_);clear hK K;refine Zk 6 (fun K hK=>?_);with_reducible refine Qam (some 17) rfl rfl (.tmp 14) (.tmp 16) 46 rfl 149 _ 2 24 infoPart underlying46 rfl (by omega) rfl rfl hownW hrW HO.out (by omega) (by omega) hzW ?_
 intro A' c' w' hown' hg' _;have hb5:Below (w.heap.size+1) w1 w':=Bel.grownOwn hbW hg' (hownW.mono (by omega)) (by omega);have hb6:Below w.heap.size w w':=Bel.grownOwn hbwW hg' (hownW.mono (by omega)) (by omega);have hB':=hB2.grown hg' (hownW.ne (by omega));refine hK.out _ _ hb5 (fun _=>?_);clear hK K hownW hrW hg' hown';simp only [Act.put,List.setIfInBounds_toArray,List.set_cons_zero,List.set_cons_succ];obtain ⟨c0,c1,f0,f1⟩:=hB'.two;refine tz 9 20 ?_;refine Zk 10 (fun K hK=>?_);go_simp;refine hK.out _ _ ((hb5.setCell (by simp only;omega) _).setCell (by simp only;omega) _) (fun _=>?_);clear hK K;refine Zd ?_
 go_wp2_with fail
 refine bodyPost_ret (v:=.agg #[.slice A' (1+k) c',.int .i64 x]) (by simp [results,results153,go_sem,c0,c1]) rfl ?_;exact ⟨⟨_,_,_,rfl⟩,Qah⟩
set_option maxHeartbeats 6000000 in
set_option maxRecDepth 100000 in
theorem Qjt (A B C:Option Addr)(n m k c d e:Nat)(N:Qaq)(w:World)(h:Qca w A B C n m k N)(hn:n≤9223372036854775807)(hm:m≤9223372036854775807)(hk:k≤9223372036854775807) :
 Calls prog 161 #[.agg #[.slice A n c,.slice B m d,.slice C k e]] w fun e w'=>Qbt (Qaw N) e∧Below w.heap.size w w':=by
 have HH:=Zh h;have HLV:=Zh h.1.1;have HLA:=Zh h.2.1.1;have HLT:=Zh h.2.2.1;clear h
 by_cases q0:(n:Int) > 4096
 · go_enter func161,ntmps161
   go_wp2_with fail
   (refine Qad ?_;intro w5 hw5)
   have hB5:Blk w5 (w.heap.size+1) 48 #[.slice none 0 0,.int .i64 0]:=by rw [hw5];exact Qbf
   have hb5:Below w.heap.size w w5:=by rw [hw5];exact Qah
   clear hw5;with_reducible refine (Qax _ _ _ _).mono ?_
   rintro e w2 ⟨⟨A4,n4,m4,rfl,hg4⟩,hb⟩;have hB2:=Blk.below hB5 hb hB5.lt;obtain ⟨c0,c1,f0,f1⟩:=hB2.two;have hb2:Below w.heap.size w w2:=Zb hb5 hb
   go_wp2_with fail
   refine bodyPost_ret (v:=.agg #[.slice A4 n4 m4,.int .i64 4]) (by simp [results,results161,go_sem,c0,c1]) rfl ?_
   first | exact ⟨Qbt.no (by decide),Qah⟩ | exact ⟨Qcr.no (Wg.mono (B:=w5.heap.size) (Wg.setCell (Wg.setCell hg4 hB5.lt _) hB5.lt _) hb5.size) (by decide),Qah⟩
 by_cases q1:(m:Int) > 16384
 · go_enter func161,ntmps161
   go_wp2_with fail
   (refine Qad ?_;intro w5 hw5)
   have hB5:Blk w5 (w.heap.size+1) 48 #[.slice none 0 0,.int .i64 0]:=by rw [hw5];exact Qbf
   have hb5:Below w.heap.size w w5:=by rw [hw5];exact Qah
   clear hw5;with_reducible refine (Qax _ _ _ _).mono ?_
   rintro e w2 ⟨⟨A4,n4,m4,rfl,hg4⟩,hb⟩;have hB2:=Blk.below hB5 hb hB5.lt;obtain ⟨c0,c1,f0,f1⟩:=hB2.two;have hb2:Below w.heap.size w w2:=Zb hb5 hb
   go_wp2_with fail
   refine bodyPost_ret (v:=.agg #[.slice A4 n4 m4,.int .i64 4]) (by simp [results,results161,go_sem,c0,c1]) rfl ?_
   first | exact ⟨Qbt.no (by decide),Qah⟩ | exact ⟨Qcr.no (Wg.mono (B:=w5.heap.size) (Wg.setCell (Wg.setCell hg4 hB5.lt _) hB5.lt _) hb5.size) (by decide),Qah⟩
 by_cases q2:(k:Int) > 256
 · go_enter func161,ntmps161
   go_wp2_with fail
   (refine Qad ?_;intro w5 hw5)
   have hB5:Blk w5 (w.heap.size+1) 48 #[.slice none 0 0,.int .i64 0]:=by rw [hw5];exact Qbf
   have hb5:Below w.heap.size w w5:=by rw [hw5];exact Qah
   clear hw5;with_reducible refine (Qax _ _ _ _).mono ?_
   rintro e w2 ⟨⟨A4,n4,m4,rfl,hg4⟩,hb⟩;have hB2:=Blk.below hB5 hb hB5.lt;obtain ⟨c0,c1,f0,f1⟩:=hB2.two;have hb2:Below w.heap.size w w2:=Zb hb5 hb
   go_wp2_with fail
   refine bodyPost_ret (v:=.agg #[.slice A4 n4 m4,.int .i64 4]) (by simp [results,results161,go_sem,c0,c1]) rfl ?_
   first | exact ⟨Qbt.no (by decide),Qah⟩ | exact ⟨Qcr.no (Wg.mono (B:=w5.heap.size) (Wg.setCell (Wg.setCell hg4 hB5.lt _) hB5.lt _) hb5.size) (by decide),Qah⟩
 go_enter func161,ntmps161
 go_wp2_with fail
 (refine Qaj ?_;intro w1 hw1)
 have hb1:Below w.heap.size w w1:=by rw [hw1];exact Qah
 have hN1:Blk w1 w.heap.size 26 #[.slice A n c,.slice B m d,.slice C k e]:=by rw [hw1];exact Qbf
 have hR1:Blk w1 (w.heap.size+1) 48 #[.slice none 0 0,.int .i64 0]:=by rw [hw1];exact Qbf
 clear hw1
 go_loopw [3] (fun q W=>∃ i:Nat,i≤k∧q=.int .i64 i∧Below w.heap.size w W∧Blk W w.heap.size 26 #[.slice A n c,.slice B m d,.slice C k e]∧Blk W (w.heap.size+1) 48 #[.slice none 0 0,.int .i64 0]∧∀ j t,j<i→N.ts[j]?=some t→Qng t) (fun q _=>k-(intOf q).toNat)
 case atStart=>exact ⟨0,Nat.zero_le _,rfl,hb1,hN1,hR1,fun _ _ h=>absurd h (Nat.not_lt_zero _)⟩
 case round =>
  clear hb1 hN1 hR1;obtain ⟨i,hi,rfl,hbl,hNN,hRR,hall⟩:=hrel;have HA:=Zh hall;clear hall;obtain ⟨n0,n1,n2⟩:=hNN.three;have zN:=hNN.lt;have zR:=hRR.lt
  by_cases hlt:i<k
  · obtain ⟨b,o,t,rfl,ht,k0,k1,A',n',c',k2,hr,hc1,hc2⟩:=(HH.out.2.2.below hbl).at_ hlt
    have i1:(0:Int)≤(i:Int):=by omega
    have i2:(i:Int)<(k:Int):=by omega
    have HT:=Zh ht;clear ht;have HTC:=Zh (show Calls prog 196 #[.agg #[.int .i64 t.ins,.int .i64 t.outs,.slice A' n' c']] wr fun e w'=>Qcr (Qng t) wr.heap.size e w'∧Below wr.heap.size wr w' from Qhy A' n' c' t wr hr (by omega))
    go_wp2_with fail
    with_reducible refine (HTC.out).mono ?_
    rintro e w2 ⟨⟨A4,k4,c4,x,rfl,hg4,hx⟩,hb2⟩;have hN2:=hNN.below hb2 hNN.lt;have hR2:=hRR.below hb2 hRR.lt;have hbl2:Below w.heap.size w w2:=Zb hbl hb2;clear n0 n1 n2 k0 k1 k2
    rcases hx with ⟨rfl,hT⟩|hx
    · have HT2:=Zh hT
      clear hT
      go_wp2_with fail
      go_roundw
      case rel =>
       refine ⟨i+1,by omega,by go_num,Bel.alloc hbl2,hN2.alloc _,hR2.alloc _,fun j y hj hy=>?_⟩
       by_cases e:j=i
       · subst e
         rw [HT.out] at hy
         cases hy
         exact HT2.out
       · exact HA.out j y (by omega) hy
      case measure=>simp [intOf];omega
    · go_wp2_with fail
      (refine Qad ?_;intro w5 hw5)
      have hB5:Blk w5 (w.heap.size+1) 48 #[.slice none 0 0,.int .i64 0]:=by rw [hw5];exact Qbf
      have hb5:Below w.heap.size w w5:=by rw [hw5];exact Qah
      have hg5:Wg wr.heap.size w5 A4 k4 c4:=by rw [hw5];exact hg4.alloc _
      clear hw5;with_reducible refine (Qmo _ _ _ _ _ _ _ _ hx hg5).mono ?_
      rintro e w6 ⟨⟨A6,n6,m6,rfl⟩,hb6⟩;have hB6:=Blk.below hB5 hb6 hB5.lt;obtain ⟨c0,c1,f0,f1⟩:=hB6.two;have hb6':Below w.heap.size w w6:=Zb hb5 hb6
      go_wp2_with fail
      refine bodyPost_ret (v:=.agg #[.slice A6 n6 m6,.int .i64 x]) (by simp [results,results161,go_sem,c0,c1]) rfl ?_;exact ⟨Qbt.no hx,Qah⟩
  · obtain rfl:i=k:=by omega
    have HTA:=Zh (show ∀ t∈N.ts,Qng t from fun t ht=>by
     obtain ⟨j,hj⟩:=List.getElem?_of_mem ht;exact HA.out j t (by rw [←HLT.out];exact (Zs hj).1) hj)
    clear HA;obtain ⟨w2,hw2⟩:∃ w2,w2=wr:=⟨_,rfl⟩;subst hw2
    go_wp2_with fail
    clear n0 n1 n2 zN zR hlt hi
    go_loopw [5] (fun q W=>∃ j:Nat,j≤n∧q=.int .i64 j∧Below w.heap.size w W∧Blk W w.heap.size 26 #[.slice A n c,.slice B m d,.slice C i e]∧Blk W (w.heap.size+1) 48 #[.slice none 0 0,.int .i64 0]∧∀ r v,r<j→N.vs[r]?=some v→Qvi i v) (fun q _=>n-(intOf q).toNat)
    case atStart=>exact ⟨0,Nat.zero_le _,rfl,hbl,hNN,hRR,fun _ _ h=>absurd h (Nat.not_lt_zero _)⟩
    case round =>
     clear hbl hNN hRR;obtain ⟨j,hj,rfl,hbl,hNN,hRR,hall⟩:=hrel;have HA:=Zh hall;clear hall;obtain ⟨n0,n1,n2⟩:=hNN.three;have zN:=hNN.lt;have zR:=hRR.lt
     by_cases hlt:j<n
     · obtain ⟨b,o,x,y,z,rfl,hx,cx,cy,cz⟩:=(HH.out.1.below hbl).at_ hlt
       have i1:(0:Int)≤(j:Int):=by omega
       have i2:(j:Int)<(n:Int):=by omega
       have HX:=Zh hx;clear hx;have HF1:=Zh (show ∀ V,Calls prog 197 #[.int .i64 x] V fun e w'=>e=.returned (.bool (Qgg x))∧V=w' from fun V=>Qoc x V)
       have HF2:=Zh (show ∀ V,Calls prog 197 #[.int .i64 y] V fun e w'=>e=.returned (.bool (Qgg y))∧V=w' from fun V=>Qoc y V)
       cases e1:Qgg x
       · rw [e1] at HF1
         go_wp2_with fail
         with_reducible refine (HF1.out _).mono ?_
         rintro e w' ⟨rfl,rfl⟩
         go_wp2_with fail
         (refine Qad ?_;intro w5 hw5)
         have hB5:Blk w5 (w.heap.size+1) 48 #[.slice none 0 0,.int .i64 0]:=by rw [hw5];exact Qbf
         have hb5:Below w.heap.size w w5:=by rw [hw5];exact Qah
         clear hw5;with_reducible refine (Qax _ _ _ _).mono ?_
         rintro e w2 ⟨⟨A4,n4,m4,rfl,hg4⟩,hb⟩;have hB2:=Blk.below hB5 hb hB5.lt;obtain ⟨c0,c1,f0,f1⟩:=hB2.two;have hb2:Below w.heap.size w w2:=Zb hb5 hb
         go_wp2_with fail
         refine bodyPost_ret (v:=.agg #[.slice A4 n4 m4,.int .i64 1]) (by simp [results,results161,go_sem,c0,c1]) rfl ?_
         first | exact ⟨Qbt.no (by decide),Qah⟩ | exact ⟨Qcr.no (Wg.mono (B:=w5.heap.size) (Wg.setCell (Wg.setCell hg4 hB5.lt _) hB5.lt _) hb5.size) (by decide),Qah⟩
       cases e2:Qgg y
       · rw [e1] at HF1
         rw [e2] at HF2;have HE:=Zh e1;clear e1
         go_wp2_with fail
         with_reducible refine (HF1.out _).mono ?_
         rintro e w' ⟨rfl,rfl⟩
         go_wp2_with fail
         with_reducible refine (HF2.out _).mono ?_
         rintro e w' ⟨rfl,rfl⟩
         go_wp2_with fail
         (refine Qad ?_;intro w5 hw5)
         have hB5:Blk w5 (w.heap.size+1) 48 #[.slice none 0 0,.int .i64 0]:=by rw [hw5];exact Qbf
         have hb5:Below w.heap.size w w5:=by rw [hw5];exact Qah
         clear hw5;with_reducible refine (Qax _ _ _ _).mono ?_
         rintro e w2 ⟨⟨A4,n4,m4,rfl,hg4⟩,hb⟩;have hB2:=Blk.below hB5 hb hB5.lt;obtain ⟨c0,c1,f0,f1⟩:=hB2.two;have hb2:Below w.heap.size w w2:=Zb hb5 hb
         go_wp2_with fail
         refine bodyPost_ret (v:=.agg #[.slice A4 n4 m4,.int .i64 1]) (by simp [results,results161,go_sem,c0,c1]) rfl ?_
         first | exact ⟨Qbt.no (by decide),Qah⟩ | exact ⟨Qcr.no (Wg.mono (B:=w5.heap.size) (Wg.setCell (Wg.setCell hg4 hB5.lt _) hB5.lt _) hb5.size) (by decide),Qah⟩
       rw [e1] at HF1;rw [e2] at HF2;have HE1:=Zh e1;have HE2:=Zh e2;clear e1 e2
       go_wp2_with fail
       with_reducible refine (HF1.out _).mono ?_
       rintro e w' ⟨rfl,rfl⟩
       go_wp2_with fail
       with_reducible refine (HF2.out _).mono ?_
       rintro e w' ⟨rfl,rfl⟩
       by_cases z0:z<0
       ·
        go_wp2_with fail
        (refine Qad ?_;intro w5 hw5)
        have hB5:Blk w5 (w.heap.size+1) 48 #[.slice none 0 0,.int .i64 0]:=by rw [hw5];exact Qbf
        have hb5:Below w.heap.size w w5:=by rw [hw5];exact Qah
        clear hw5;with_reducible refine (Qax _ _ _ _).mono ?_
        rintro e w2 ⟨⟨A4,n4,m4,rfl,hg4⟩,hb⟩;have hB2:=Blk.below hB5 hb hB5.lt;obtain ⟨c0,c1,f0,f1⟩:=hB2.two;have hb2:Below w.heap.size w w2:=Zb hb5 hb
        go_wp2_with fail
        refine bodyPost_ret (v:=.agg #[.slice A4 n4 m4,.int .i64 5]) (by simp [results,results161,go_sem,c0,c1]) rfl ?_
        first | exact ⟨Qbt.no (by decide),Qah⟩ | exact ⟨Qcr.no (Wg.mono (B:=w5.heap.size) (Wg.setCell (Wg.setCell hg4 hB5.lt _) hB5.lt _) hb5.size) (by decide),Qah⟩
       by_cases z1:z ≥ (i:Int)
       ·
        go_wp2_with fail
        (refine Qad ?_;intro w5 hw5)
        have hB5:Blk w5 (w.heap.size+1) 48 #[.slice none 0 0,.int .i64 0]:=by rw [hw5];exact Qbf
        have hb5:Below w.heap.size w w5:=by rw [hw5];exact Qah
        clear hw5;with_reducible refine (Qax _ _ _ _).mono ?_
        rintro e w2 ⟨⟨A4,n4,m4,rfl,hg4⟩,hb⟩;have hB2:=Blk.below hB5 hb hB5.lt;obtain ⟨c0,c1,f0,f1⟩:=hB2.two;have hb2:Below w.heap.size w w2:=Zb hb5 hb
        go_wp2_with fail
        refine bodyPost_ret (v:=.agg #[.slice A4 n4 m4,.int .i64 5]) (by simp [results,results161,go_sem,c0,c1]) rfl ?_
        first | exact ⟨Qbt.no (by decide),Qah⟩ | exact ⟨Qcr.no (Wg.mono (B:=w5.heap.size) (Wg.setCell (Wg.setCell hg4 hB5.lt _) hB5.lt _) hb5.size) (by decide),Qah⟩
       go_wp2_with fail
       go_roundw
       case rel =>
        refine ⟨j+1,by omega,by go_num,Bel.alloc hbl,hNN.alloc _,hRR.alloc _,fun r v hr hv=>?_⟩
        by_cases e:r=j
        · subst e
          rw [HX.out] at hv
          cases hv
          exact ⟨HE1.out,HE2.out,by simp only;omega,by simp only;omega⟩
        · exact HA.out r v (by omega) hv
       case measure=>simp [intOf];omega
     · obtain rfl:j=n:=by omega
       have HVA:=Zh (show ∀ v∈N.vs,Qvi i v from fun v hv=>by
        obtain ⟨r,hr⟩:=List.getElem?_of_mem hv;exact HA.out r v (by rw [←HLV.out];exact (Zs hr).1) hr)
       clear HA;obtain ⟨w3,hw3⟩:∃ w3,w3=wr:=⟨_,rfl⟩;subst hw3;have hmk:=Qcv j (by omega)
       go_wp2_with fail
       (refine Qaj ?_;intro w4 hw4)
       have hb4:Below w.heap.size w w4:=by rw [hw4];exact Qah
       have hN4:Blk w4 w.heap.size 26 #[.slice A j c,.slice B m d,.slice C i e]:=by rw [hw4];exact Qge
       have hR4:Blk w4 (w.heap.size+1) 48 #[.slice none 0 0,.int .i64 0]:=by rw [hw4];exact Qge
       have hI4:Blk w4 w3.heap.size 3 (Qbg (.int .i64 0) j):=by rw [hw4];exact Qbf
       have hO4:Blk w4 (w3.heap.size+1) 3 (Qbg (.int .i64 0) j):=by rw [hw4];exact Qbf
       obtain ⟨g,hg⟩:∃ g,g=w3.heap.size:=⟨_,rfl⟩;rw [←hg] at hI4 hO4 zR;rw [←hg];clear hw4 hmk n0 n1 n2 zN hbl hNN hRR hj hlt hg
       go_loopw [9] (fun q W=>∃ r:Nat,r≤m∧q=.int .i64 r∧Below w.heap.size w W∧Blk W w.heap.size 26 #[.slice A j c,.slice B m d,.slice C i e]∧Blk W (w.heap.size+1) 48 #[.slice none 0 0,.int .i64 0]∧Blk W g 3 (Qcd (Qqt (·.2.1) (N.ar.take r) j))∧Blk W (g+1) 3 (Qcd (Qqt (·.1) (N.ar.take r) j))∧∀ p a,p<r→N.ar[p]?=some a→ArcOk j a) (fun q _=>m-(intOf q).toNat)
       case atStart=>exact ⟨0,Nat.zero_le _,rfl,hb4,hN4,hR4,by rw [List.take_zero,Qgw];exact hI4,by rw [List.take_zero,Qgw];exact hO4,fun _ _ h=>absurd h (Nat.not_lt_zero _)⟩
       case round =>
        clear hb4 hN4 hR4 hI4 hO4;obtain ⟨r,hr,rfl,hbl,hNN,hRR,hI,hO,hall⟩:=hrel;have HA:=Zh hall;clear hall;obtain ⟨n0,n1,n2⟩:=hNN.three;have zN:=hNN.lt;have zI:=hI.lt;have zO:=hO.lt
        by_cases hlt:r<m
        · obtain ⟨b,o,x,y,z,rfl,hx,cx,cy,cz⟩:=(HH.out.2.1.below hbl).at_ hlt
          have i1:(0:Int)≤(r:Int):=by omega
          have i2:(r:Int)<(m:Int):=by omega
          have HX:=Zh hx;clear hx
          by_cases x0:x<0
          ·
           go_wp2_with fail
           (refine Qad ?_;intro w5 hw5)
           have hB5:Blk w5 (w.heap.size+1) 48 #[.slice none 0 0,.int .i64 0]:=by rw [hw5];exact Qbf
           have hb5:Below w.heap.size w w5:=by rw [hw5];exact Qah
           clear hw5;with_reducible refine (Qax _ _ _ _).mono ?_
           rintro e w2 ⟨⟨A4,n4,m4,rfl,hg4⟩,hb⟩;have hB2:=Blk.below hB5 hb hB5.lt;obtain ⟨c0,c1,f0,f1⟩:=hB2.two;have hb2:Below w.heap.size w w2:=Zb hb5 hb
           go_wp2_with fail
           refine bodyPost_ret (v:=.agg #[.slice A4 n4 m4,.int .i64 5]) (by simp [results,results161,go_sem,c0,c1]) rfl ?_
           first | exact ⟨Qbt.no (by decide),Qah⟩ | exact ⟨Qcr.no (Wg.mono (B:=w5.heap.size) (Wg.setCell (Wg.setCell hg4 hB5.lt _) hB5.lt _) hb5.size) (by decide),Qah⟩
          by_cases x1:x ≥ (j:Int)
          ·
           go_wp2_with fail
           (refine Qad ?_;intro w5 hw5)
           have hB5:Blk w5 (w.heap.size+1) 48 #[.slice none 0 0,.int .i64 0]:=by rw [hw5];exact Qbf
           have hb5:Below w.heap.size w w5:=by rw [hw5];exact Qah
           clear hw5;with_reducible refine (Qax _ _ _ _).mono ?_
           rintro e w2 ⟨⟨A4,n4,m4,rfl,hg4⟩,hb⟩;have hB2:=Blk.below hB5 hb hB5.lt;obtain ⟨c0,c1,f0,f1⟩:=hB2.two;have hb2:Below w.heap.size w w2:=Zb hb5 hb
           go_wp2_with fail
           refine bodyPost_ret (v:=.agg #[.slice A4 n4 m4,.int .i64 5]) (by simp [results,results161,go_sem,c0,c1]) rfl ?_
           first | exact ⟨Qbt.no (by decide),Qah⟩ | exact ⟨Qcr.no (Wg.mono (B:=w5.heap.size) (Wg.setCell (Wg.setCell hg4 hB5.lt _) hB5.lt _) hb5.size) (by decide),Qah⟩
          by_cases y0:y<0
          ·
           go_wp2_with fail
           (refine Qad ?_;intro w5 hw5)
           have hB5:Blk w5 (w.heap.size+1) 48 #[.slice none 0 0,.int .i64 0]:=by rw [hw5];exact Qbf
           have hb5:Below w.heap.size w w5:=by rw [hw5];exact Qah
           clear hw5;with_reducible refine (Qax _ _ _ _).mono ?_
           rintro e w2 ⟨⟨A4,n4,m4,rfl,hg4⟩,hb⟩;have hB2:=Blk.below hB5 hb hB5.lt;obtain ⟨c0,c1,f0,f1⟩:=hB2.two;have hb2:Below w.heap.size w w2:=Zb hb5 hb
           go_wp2_with fail
           refine bodyPost_ret (v:=.agg #[.slice A4 n4 m4,.int .i64 5]) (by simp [results,results161,go_sem,c0,c1]) rfl ?_
           first | exact ⟨Qbt.no (by decide),Qah⟩ | exact ⟨Qcr.no (Wg.mono (B:=w5.heap.size) (Wg.setCell (Wg.setCell hg4 hB5.lt _) hB5.lt _) hb5.size) (by decide),Qah⟩
          by_cases y1:y ≥ (j:Int)
          ·
           go_wp2_with fail
           (refine Qad ?_;intro w5 hw5)
           have hB5:Blk w5 (w.heap.size+1) 48 #[.slice none 0 0,.int .i64 0]:=by rw [hw5];exact Qbf
           have hb5:Below w.heap.size w w5:=by rw [hw5];exact Qah
           clear hw5;with_reducible refine (Qax _ _ _ _).mono ?_
           rintro e w2 ⟨⟨A4,n4,m4,rfl,hg4⟩,hb⟩;have hB2:=Blk.below hB5 hb hB5.lt;obtain ⟨c0,c1,f0,f1⟩:=hB2.two;have hb2:Below w.heap.size w w2:=Zb hb5 hb
           go_wp2_with fail
           refine bodyPost_ret (v:=.agg #[.slice A4 n4 m4,.int .i64 5]) (by simp [results,results161,go_sem,c0,c1]) rfl ?_
           first | exact ⟨Qbt.no (by decide),Qah⟩ | exact ⟨Qcr.no (Wg.mono (B:=w5.heap.size) (Wg.setCell (Wg.setCell hg4 hB5.lt _) hB5.lt _) hb5.size) (by decide),Qah⟩
          have HF1:=Zh (show ∀ V,Calls prog 148 #[.int .i64 z] V fun e w'=>e=.returned (.bool (wOk z))∧V=w' from fun V=>Qfe z V)
          cases e1:wOk z
          · rw [e1] at HF1
            go_wp2_with fail
            with_reducible refine (HF1.out _).mono ?_
            rintro e w' ⟨rfl,rfl⟩
            go_wp2_with fail
            (refine Qad ?_;intro w5 hw5)
            have hB5:Blk w5 (w.heap.size+1) 48 #[.slice none 0 0,.int .i64 0]:=by rw [hw5];exact Qbf
            have hb5:Below w.heap.size w w5:=by rw [hw5];exact Qah
            clear hw5;with_reducible refine (Qax _ _ _ _).mono ?_
            rintro e w2 ⟨⟨A4,n4,m4,rfl,hg4⟩,hb⟩;have hB2:=Blk.below hB5 hb hB5.lt;obtain ⟨c0,c1,f0,f1⟩:=hB2.two;have hb2:Below w.heap.size w w2:=Zb hb5 hb
            go_wp2_with fail
            refine bodyPost_ret (v:=.agg #[.slice A4 n4 m4,.int .i64 8]) (by simp [results,results161,go_sem,c0,c1]) rfl ?_
            first | exact ⟨Qbt.no (by decide),Qah⟩ | exact ⟨Qcr.no (Wg.mono (B:=w5.heap.size) (Wg.setCell (Wg.setCell hg4 hB5.lt _) hB5.lt _) hb5.size) (by decide),Qah⟩
          rw [e1] at HF1;have HE1:=Zh e1;clear e1;obtain ⟨u,rfl⟩:∃ u:Nat,x=u:=⟨x.toNat,by omega⟩;obtain ⟨v,rfl⟩:∃ v:Nat,y=v:=⟨y.toNat,by omega⟩;have hu:u<j:=by omega
          have hvn:v<j:=by omega
          have HX1:=Zh (Qhk (f:=(·.2.1)) (n:=j) (v:=v) HX.out rfl hvn);have HX2:=Zh (Qhk (f:=(·.1)) (n:=j) (v:=u) HX.out rfl hu);have c1:=hI.cellI (Qcu (f:=(·.2.1)) (l:=N.ar.take r) hvn);have c2:=hO.cellI (Qcu (f:=(·.1)) (l:=N.ar.take r) hu);have d1:=Qkd (·.2.1) N.ar r v;have d2:=Qkd (·.1) N.ar r u;generalize (N.ar.take r).countP (fun a=>a.2.1 == (v:Int))=p at *;generalize (N.ar.take r).countP (fun a=>a.1 == (u:Int))=q at *;have f1:=hI.frozen v;have f2:=hO.frozen u;obtain ⟨W2,hW2⟩:∃ W2,W2=((wr.setCell ⟨g+1,u,none⟩ (.int .i64 ((q:Int)+1))).setCell ⟨g,v,none⟩ (.int .i64 ((p:Int)+1))).alloc (.cells #[.int .i64 u,.int .i64 v,.int .i64 z] 152):=⟨_,rfl⟩;have HW2:=Zh hW2;have hb2:Below w.heap.size w W2:=by rw [hW2];exact Bel.alloc ((hbl.setCell (by simp only;omega) _).setCell (by simp only;omega) _)
          have HN2:=Zh (show Blk W2 w.heap.size 26 #[.slice A j c,.slice (some ⟨b,o,none⟩) m d,.slice C i e] from by rw [hW2];exact Qge)
          have HR2:=Zh (show Blk W2 (w.heap.size+1) 48 #[.slice none 0 0,.int .i64 0] from by rw [hW2];exact Qge)
          have HI2:=Zh (show Blk W2 g 3 (Qcd (Qqt (·.2.1) (N.ar.take (r+1)) j)) from by
           rw [hW2];exact (Blk.setI (hI.far_ (by omega) _) HX1.out).alloc _)
          have HO2:=Zh (show Blk W2 (g+1) 3 (Qcd (Qqt (·.1) (N.ar.take (r+1)) j)) from by
           rw [hW2];exact ((hO.setI HX2.out).far_ (by omega) _).alloc _)
          clear hW2 hI hO hNN hRR
          go_wp2_with fail
          with_reducible refine (HF1.out _).mono ?_
          rintro e w' ⟨rfl,rfl⟩
          go_wp2_with fail
          rw [←HW2.out]
          go_roundw
          case rel =>
           refine ⟨r+1,by omega,by go_num,hb2,HN2.out,HR2.out,HI2.out,HO2.out,fun p' a hp ha=>?_⟩
           by_cases e:p'=r
           · subst e
             rw [HX.out] at ha
             cases ha
             exact ⟨by simp only;omega,by simp only;omega,by simp only;omega,by simp only;omega,HE1.out⟩
           · exact HA.out p' a (by omega) ha
          case measure=>simp [intOf];omega
        · obtain rfl:r=m:=by omega
          rw [List.take_of_length_le (by rw [HLA.out];exact Zn _)] at hI hO
          have HAA:=Zh (show ∀ a∈N.ar,ArcOk j a from fun a ha=>by
           obtain ⟨p,hp⟩:=List.getElem?_of_mem ha;exact HA.out p a (by rw [←HLA.out];exact (Zs hp).1) hp)
          clear HA;obtain ⟨w6,hw6⟩:∃ w6,w6=wr:=⟨_,rfl⟩;subst hw6
          go_wp2_with fail
          clear n0 n1 n2 hlt hr
          go_loopw [11] (fun q W=>∃ s:Nat,s≤j∧q=.int .i64 s∧Below w6.heap.size w6 W∧∀ (p:Nat) v t,p<s→N.vs[p]?=some v→N.ts[v.2.2.toNat]?=some t→(cntTo N.ar p:Int)=t.ins∧(cntFr N.ar p:Int)=t.outs) (fun q _=>j-(intOf q).toNat)
          case atStart=>exact ⟨0,Nat.zero_le _,rfl,Zr _ _,fun _ _ _ h=>absurd h (Nat.not_lt_zero _)⟩
          case round =>
           obtain ⟨s,hs,rfl,hb2,hall⟩:=hrel;have HA:=Zh hall;clear hall;have hNr:=hNN.below hb2 zN;have hRr:=hRR.below hb2 hRR.lt;have hIr:=hI.below hb2 zI;have hOr:=hO.below hb2 zO;have hblr:Below w.heap.size w wr:=Zb hbl hb2;obtain ⟨n0,n1,n2⟩:=hNr.three;have zr:=hb2.size
           by_cases hlt2:s<j
           · obtain ⟨b,o,x,y,z,rfl,hx,cx,cy,cz⟩:=(HH.out.1.below hblr).at_ hlt2
             have hok:=HVA.out _ (Zm hx);have t0:=hok.t0;have t1:=hok.t1;simp only at t0 t1;obtain ⟨u,rfl⟩:∃ u:Nat,z=u:=⟨z.toNat,by omega⟩;have hu:u<i:=by omega
             obtain ⟨b',o',t,rfl,htt,k0,k1,A',n',c',k2,_,_,_⟩:=(HH.out.2.2.below hblr).at_ hu;obtain ⟨ti,to_,tc⟩:=t;simp only at k0 k1;have HX:=Zh hx;have HTT:=Zh htt;have c1:=hIr.cellI (Qcu (f:=(·.2.1)) (l:=N.ar) hlt2);have c2:=hOr.cellI (Qcu (f:=(·.1)) (l:=N.ar) hlt2);obtain ⟨p,hp⟩:∃ p,p=N.ar.countP (fun a=>a.2.1 == (s:Int)):=⟨_,rfl⟩;obtain ⟨q,hq⟩:∃ q,q=N.ar.countP (fun a=>a.1 == (s:Int)):=⟨_,rfl⟩;rw [←hp] at c1;rw [←hq] at c2;have HP:=Zh hp;have HQ:=Zh hq
             have HSX:=Zh (show ∀ V,Below wr.heap.size wr V→V.cell? ⟨w.heap.size,0,none⟩=some (.slice (some ⟨b,o,none⟩) j c)∧V.cell? ⟨w.heap.size,2,none⟩=some (.slice (some ⟨b',o',none⟩) i e)∧V.cell? ⟨b,o+s*3+2,none⟩=some (.int .i64 u)∧V.cell? ⟨b',o'+u*3,none⟩=some (.int .i64 ti)∧V.cell? ⟨b',o'+u*3+1,none⟩=some (.int .i64 to_)∧V.cell? ⟨b',o'+u*3+2,none⟩=some (.slice A' n' c') from fun V hV =>
              ⟨Zc hV (Zn _) n0,Zc hV (Zn _) n2,Zc hV (Zn _) cz,Zc hV (Zn _) k0,Zc hV (Zn _) k1,Zc hV (Zn _) k2⟩)
             have i1:(0:Int)≤(s:Int):=by omega
             have i2:(s:Int)<(j:Int):=by omega
             have i3:(0:Int)≤(u:Int):=by omega
             have i4:(u:Int)<(i:Int):=by omega
             clear hx htt hok hp hq cx cy cz k0 k1 k2 n1
             go_wp2_with fail
             refine wp_region_held_drew (S:=fun V=>Below wr.heap.size wr V) (by kernel_rfl) (Zr _ _).drew (fun _=>?_);refine tz 0 160 ?_;refine tz 1 161 ?_;refine tz 2 162 ?_;refine tz 3 163 ?_;refine tz 4 164 ?_;refine tz 5 165 ?_;refine tz 6 166 ?_;refine tz 7 167 ?_;refine tz 8 168 ?_;refine tz 9 169 ?_;refine Zk 10 (fun K hK=>?_);go_simp;refine hK.out _ _ (by repeat (first|exact Zr _ _|apply Below.drew|apply Bel.alloc)) (fun _=>?_)
             clear hK K;refine Zk 11 (fun K hK=>?_);go_simp;obtain ⟨w7,hw7⟩:∃ w7,w7=(wr.alloc (.cells #[.int .i64 ti,.int .i64 to_,.slice A' n' c'] 155)).drew:=⟨_,rfl⟩;rw [←hw7];have hb7:Below wr.heap.size wr w7:=by rw [hw7];exact ((Zr _ _).alloc (Zn _) _).drew
             have hT7:Blk w7 wr.heap.size 155 #[.int .i64 ti,.int .i64 to_,.slice A' n' c']:=by rw [hw7];exact Qbf
             refine hK.out _ _ hb7 (fun _=>?_);clear hK K hw7;refine Zd ?_;have hR7:=hRr.below hb7 hRr.lt;have hbl7:Below w.heap.size w w7:=Zb hblr hb7;have c1':=Zc hb7 (Zn _) c1;have c2':=Zc hb7 (Zn _) c2;obtain ⟨e0,e1,_⟩:=hT7.three;clear c1 c2 n0 n2
             by_cases p16:(p:Int) > 16
             ·
              go_wp2_with fail
              (refine Qad ?_;intro w5 hw5)
              have hB5:Blk w5 (w.heap.size+1) 48 #[.slice none 0 0,.int .i64 0]:=by rw [hw5];exact Qbf
              have hb5:Below w.heap.size w w5:=by rw [hw5];exact Qah
              clear hw5;with_reducible refine (Qax _ _ _ _).mono ?_
              rintro e w2 ⟨⟨A4,n4,m4,rfl,hg4⟩,hb⟩;have hB2:=Blk.below hB5 hb hB5.lt;obtain ⟨c0,c1,f0,f1⟩:=hB2.two;have hb2:Below w.heap.size w w2:=Zb hb5 hb
              go_wp2_with fail
              refine bodyPost_ret (v:=.agg #[.slice A4 n4 m4,.int .i64 4]) (by simp [results,results161,go_sem,c0,c1]) rfl ?_
              first | exact ⟨Qbt.no (by decide),Qah⟩ | exact ⟨Qcr.no (Wg.mono (B:=w5.heap.size) (Wg.setCell (Wg.setCell hg4 hB5.lt _) hB5.lt _) hb5.size) (by decide),Qah⟩
             by_cases q16:(q:Int) > 16
             ·
              go_wp2_with fail
              (refine Qad ?_;intro w5 hw5)
              have hB5:Blk w5 (w.heap.size+1) 48 #[.slice none 0 0,.int .i64 0]:=by rw [hw5];exact Qbf
              have hb5:Below w.heap.size w w5:=by rw [hw5];exact Qah
              clear hw5;with_reducible refine (Qax _ _ _ _).mono ?_
              rintro e w2 ⟨⟨A4,n4,m4,rfl,hg4⟩,hb⟩;have hB2:=Blk.below hB5 hb hB5.lt;obtain ⟨c0,c1,f0,f1⟩:=hB2.two;have hb2:Below w.heap.size w w2:=Zb hb5 hb
              go_wp2_with fail
              refine bodyPost_ret (v:=.agg #[.slice A4 n4 m4,.int .i64 4]) (by simp [results,results161,go_sem,c0,c1]) rfl ?_
              first | exact ⟨Qbt.no (by decide),Qah⟩ | exact ⟨Qcr.no (Wg.mono (B:=w5.heap.size) (Wg.setCell (Wg.setCell hg4 hB5.lt _) hB5.lt _) hb5.size) (by decide),Qah⟩
             by_cases m1:(p:Int)=ti
             rotate_left
             · have d1:((p:Int) != ti)=true:=by simpa using m1
               have d2:((p:Int) == ti)=false:=by simpa using m1
               clear m1
               go_wp2_with fail
               go_quiet (fail)
               go_wp2_with fail
               (refine Qad ?_;intro w5 hw5)
               have hB5:Blk w5 (w.heap.size+1) 48 #[.slice none 0 0,.int .i64 0]:=by rw [hw5];exact Qbf
               have hb5:Below w.heap.size w w5:=by rw [hw5];exact Qah
               clear hw5;with_reducible refine (Qax _ _ _ _).mono ?_
               rintro e w2 ⟨⟨A4,n4,m4,rfl,hg4⟩,hb⟩;have hB2:=Blk.below hB5 hb hB5.lt;obtain ⟨c0,c1,f0,f1⟩:=hB2.two;have hb2:Below w.heap.size w w2:=Zb hb5 hb
               go_wp2_with fail
               refine bodyPost_ret (v:=.agg #[.slice A4 n4 m4,.int .i64 9]) (by simp [results,results161,go_sem,c0,c1]) rfl ?_
               first | exact ⟨Qbt.no (by decide),Qah⟩ | exact ⟨Qcr.no (Wg.mono (B:=w5.heap.size) (Wg.setCell (Wg.setCell hg4 hB5.lt _) hB5.lt _) hb5.size) (by decide),Qah⟩
             subst m1;have d1:(((p:Nat):Int) != ((p:Nat):Int))=false:=by simp
             by_cases m2:(q:Int)=to_
             rotate_left
             · have d3:((q:Int) != to_)=true:=by simpa using m2
               have d4:((q:Int) == to_)=false:=by simpa using m2
               clear m2
               go_wp2_with fail
               go_quiet (fail)
               go_wp2_with fail
               (refine Qad ?_;intro w5 hw5)
               have hB5:Blk w5 (w.heap.size+1) 48 #[.slice none 0 0,.int .i64 0]:=by rw [hw5];exact Qbf
               have hb5:Below w.heap.size w w5:=by rw [hw5];exact Qah
               clear hw5;with_reducible refine (Qax _ _ _ _).mono ?_
               rintro e w2 ⟨⟨A4,n4,m4,rfl,hg4⟩,hb⟩;have hB2:=Blk.below hB5 hb hB5.lt;obtain ⟨c0,c1,f0,f1⟩:=hB2.two;have hb2:Below w.heap.size w w2:=Zb hb5 hb
               go_wp2_with fail
               refine bodyPost_ret (v:=.agg #[.slice A4 n4 m4,.int .i64 9]) (by simp [results,results161,go_sem,c0,c1]) rfl ?_
               first | exact ⟨Qbt.no (by decide),Qah⟩ | exact ⟨Qcr.no (Wg.mono (B:=w5.heap.size) (Wg.setCell (Wg.setCell hg4 hB5.lt _) hB5.lt _) hb5.size) (by decide),Qah⟩
             subst m2;have d2:(((q:Nat):Int) != ((q:Nat):Int))=false:=by simp
             go_wp2_with fail
             go_quiet (fail)
             go_wp2_with fail
             go_roundw
             case rel =>
              refine ⟨s+1,by omega,by go_num,Qbe (Zb hb2 hb7) _,fun p' v' t' hp' hv' ht'=>?_⟩
              by_cases e:p'=s
              · subst e
                rw [HX.out] at hv'
                cases hv'
                simp only [Int.toNat_natCast] at ht';rw [HTT.out] at ht'
                cases ht'
                exact ⟨by rw [HP.out];rfl,by rw [HQ.out];rfl⟩
              · exact HA.out p' v' t' (by omega) hv' ht'
             case measure=>simp [intOf];omega
           · obtain rfl:s=j:=by omega
             obtain ⟨c0,c1,f0,f1⟩:=hRr.two
             go_wp2_with fail
             refine bodyPost_ret (v:=.agg #[.slice none 0 0,.int .i64 0]) (by simp [results,results161,go_sem,c0,c1]) rfl ?_;refine ⟨⟨_,_,_,_,rfl,.inl ⟨rfl,⟨by rw [HLV.out];omega,by rw [HLA.out];omega,by rw [HLT.out];omega,HTA.out,by rw [HLT.out];exact HVA.out,by rw [HLV.out];exact HAA.out,fun p v t hv ht=>?_⟩⟩⟩,Qah⟩;exact HA.out p v t (by rw [←HLV.out];exact (Zs hv).1) hv ht
end Go.Proofs.YteaoiabikjnkeaaGreatDoor
