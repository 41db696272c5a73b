/- Parts of the proof: G1, G2. -/
import Derived.Test.YthoagdpakddbdaaGreatDoorD1
import Derived.Test.YthoagdpakddbdaaGreatDoorD4
import Derived.Test.YthoagdpakddbdaaGreatDoorD11
namespace Go.Proofs.YthoagdpakddbdaaGreatDoor
open Go.RowKit Go.Proofs.Tryz
attribute [local go_sem ↓] Go.wp_at_zero Go.wp_at_succ
theorem Qgj {g o b:Nat} (e:Qab (some ⟨g,o,none⟩)=some b):g=b:=by injection e
def TyO (W:World)(B g k:Nat)(ts:List Qdb)(j:Nat):Prop :=
 ∃ cs,Blk W g 143 cs∧cs.size=k*3∧∀ (i:Nat) (t:Qdb),i<j→ts[i]?=some t→∃ (A2:Option Addr) (n2 c2:Nat),cs[i*3]?=some (.int .i64 t.ins)∧cs[i*3+1]?=some (.int .i64 t.outs)∧cs[i*3+2]?=some (.slice A2 n2 c2)∧RdI W A2 n2 t.costs∧(∀ q,Qab A2=some q→B≤q∧q<W.heap.size)∧n2≤c2∧c2≤9223372036854775807
theorem TyO.lt {W:World}{B g k j:Nat}{ts:List Qdb}(h:TyO W B g k ts j):g<W.heap.size:=by
 obtain ⟨cs,h1,_⟩:=h;exact h1.lt
theorem TyO.start {W:World}{B g k:Nat}{ts:List Qdb}{cs:Array Value}(h:Blk W g 143 cs)(hs:cs.size=k*3):TyO W B g k ts 0:=⟨cs,h,hs,fun _ _ hi=>absurd hi (Nat.not_lt_zero _)⟩
theorem TyO.below {W W':World}{B g k j:Nat}{ts:List Qdb}(h:TyO W B g k ts j)(hb:Below W.heap.size W W'):TyO W' B g k ts j:=by
 obtain ⟨cs,h1,h2,h3⟩:=h;refine ⟨cs,h1.below hb h1.lt,h2,fun i t hi ht=>?_⟩;obtain ⟨A2,n2,c2,k1,k2,k3,k4,k5,k6⟩:=h3 i t hi ht;exact ⟨A2,n2,c2,k1,k2,k3,k4.below hb,fun q hq=>⟨(k5 q hq).1,Nat.lt_of_lt_of_le (k5 q hq).2 hb.size⟩,k6⟩
theorem TyO.cell {W:World}{B g k j i:Nat}{ts:List Qdb}(h:TyO W B g k ts j)(hi:i<k*3):(∃ v,W.cell? ⟨g,i,none⟩=some v)∧W.frozen? ⟨g,i,none⟩=false:=by
 obtain ⟨cs,h1,h2,h3⟩:=h;exact ⟨⟨_,by rw [h1.cell];exact Array.getElem?_eq_getElem (by omega)⟩,h1.frozen i⟩
theorem TyO.set {W:World}{B g k j i:Nat}{ts:List Qdb}(h:TyO W B g k ts j)(hi:j*3≤i)(hg:g<B)(v:Value):TyO (W.setCell ⟨g,i,none⟩ v) B g k ts j:=by
 obtain ⟨cs,h1,h2,h3⟩:=h;refine ⟨_,h1.set_ i v,by simpa using h2,fun i' t hi' ht=>?_⟩;obtain ⟨A2,n2,c2,k1,k2,k3,k4,k5,k6⟩:=h3 i' t hi' ht;refine ⟨A2,n2,c2,by rw [Array.getElem?_setIfInBounds_ne (by omega)];exact k1,by rw [Array.getElem?_setIfInBounds_ne (by omega)];exact k2,by rw [Array.getElem?_setIfInBounds_ne (by omega)];exact k3,k4.far v (fun e=>by have:=(k5 g e).1;omega),fun q hq=>⟨(k5 q hq).1,?_⟩,k6⟩;have:=(k5 q hq).2
 simpa [World.setCell] using this
theorem TyO.put {W:World}{B g k j:Nat}{ts:List Qdb}(h:TyO W B g k ts j)(hj:j<k)(hg:g<B)(a b s:Value) :
 TyO (((W.setCell ⟨g,j*3,none⟩ a).setCell ⟨g,j*3+1,none⟩ b).setCell ⟨g,j*3+2,none⟩ s) B g k ts j∧(((W.setCell ⟨g,j*3,none⟩ a).setCell ⟨g,j*3+1,none⟩ b).setCell ⟨g,j*3+2,none⟩ s).cell? ⟨g,j*3,none⟩=some a ∧
  (((W.setCell ⟨g,j*3,none⟩ a).setCell ⟨g,j*3+1,none⟩ b).setCell ⟨g,j*3+2,none⟩ s).cell? ⟨g,j*3+1,none⟩=some b∧(((W.setCell ⟨g,j*3,none⟩ a).setCell ⟨g,j*3+1,none⟩ b).setCell ⟨g,j*3+2,none⟩ s).cell? ⟨g,j*3+2,none⟩=some s:=by
 refine ⟨((h.set (Zn _) hg a).set (by omega) hg b).set (by omega) hg s,?_⟩;obtain ⟨cs,h1,h2,h3⟩:=h;have hB:=((h1.set_ (j*3) a).set_ (j*3+1) b).set_ (j*3+2) s;refine ⟨?_,?_,?_⟩
 all_goals
  rw [hB.cell];simp [Array.getElem?_setIfInBounds,h2];omega
theorem TyO.next {W:World}{B g k j n2 c2:Nat}{ts:List Qdb}{t:Qdb}{A2:Option Addr}(h:TyO W B g k ts j) (ht:ts[j]?=some t) (k1:W.cell? ⟨g,j*3,none⟩=some (.int .i64 t.ins)) (k2:W.cell? ⟨g,j*3+1,none⟩=some (.int .i64 t.outs)) (k3:W.cell? ⟨g,j*3+2,none⟩=some (.slice A2 n2 c2))
 (k4:RdI W A2 n2 t.costs) (k5:∀ q,Qab A2=some q→B≤q∧q<W.heap.size) (k6:n2≤c2) (k7:c2≤9223372036854775807):TyO W B g k ts (j+1):=by
 obtain ⟨cs,h1,h2,h3⟩:=h;refine ⟨cs,h1,h2,fun i t' hi ht'=>?_⟩
 by_cases e:i=j
 · subst e
   rw [ht] at ht'
   cases ht'
   rw [h1.cell] at k1 k2 k3;exact ⟨A2,n2,c2,k1,k2,k3,k4,k5,k6,k7⟩
 · exact h3 i t' (by omega) ht'
theorem TyO.rdY2 {W:World}{B g k:Nat}{ts:List Qdb}{G:Nat→Prop}(h:TyO W B g k ts k)(hl:ts.length=k)(hG:∀ q,B≤q→q<W.heap.size→G q):RdY2 W (msk W G) (some ⟨g,0,none⟩) k ts:=by
 obtain ⟨cs,h1,h2,h3⟩:=h;refine ⟨hl,fun i t ht=>?_⟩;obtain ⟨A2,n2,c2,k1,k2,k3,k4,k5,k6,k7⟩:=h3 i t (by rw [←hl];exact (Zs ht).1) ht;exact ⟨g,0,rfl,by rw [h1.cell,Nat.zero_add];exact k1,by rw [h1.cell,Nat.zero_add];exact k2,A2,n2,c2,by rw [h1.cell,Nat.zero_add];exact k3,k4.msk (fun q hq=>hG q (k5 q hq).1 (k5 q hq).2),k6,k7⟩
theorem TyO.warm {W:World}{B g k j:Nat}{ts:List Qdb}(h:TyO W B g k ts j):Qum W (some ⟨g,0,none⟩):=fun b hb=>by
 obtain ⟨cs,h1,h2,h3⟩:=h
 cases hb
 exact ⟨h1.lt,fun o=>h1.frozen o⟩
theorem Qty (k:Nat)(hk:k≤1000000):∃ cs:Array Value,cs.size=k*3∧∀ W:World,(Instr.makeSlice 118 (.int .i64 (k:Int)) (.int .i64 (k:Int))).run prog W=.ok (.slice (some ⟨W.heap.size,0,none⟩) k k) (W.alloc (.cells cs 143)):=by
 obtain ⟨i,hi,hz,hs,hbb⟩:=info_parts Qhp
 have hb':(i.bytes:Int)*(k:Int)≤281474976710656:=by
  rw [hbb];omega
 refine ⟨madeCells (Value.agg #[.int .i64 0,.int .i64 0,.slice none 0 0]).cells (k*i.size),by rw [size_madeCells,hs],fun W=>?_⟩;have hr:=run_make (P:=prog) W 118 143 i _ underlying118 hi hz .i64 .i64 k k (by omega) (by omega) hb' (by omega);simp only [Int.toNat_natCast] at hr;exact hr
set_option maxHeartbeats 1000000 in
set_option maxRecDepth 20000 in
theorem Qgi (A B C:Option Addr)(n m k c d e:Nat)(N:Qaj)(w:World)(h:Qbo w A B C n m k N)(hn:n≤1000000)(hm:m≤1000000)(hk:k≤1000000)(hc:∀ t∈N.ts,t.costs.length≤1000000) :
 Calls prog 88 #[.agg #[.slice A n c,.slice B m d,.slice C k e]] w fun r w'=>∃ A' B' C' c' d' e',r=.returned (.agg #[.slice A' n c',.slice B' m d',.slice C' k e'])∧Qoj w' (fun b=>w.heap.size≤b∧b<w'.heap.size∧Qab B'≠some b∧Qab C'≠some b) A' B' C' n m k N ∧
  (∀ b,Qab B'=some b∨Qab C'=some b→w.heap.size≤b)∧n≤c'∧c'≤9223372036854775807∧m≤d'∧d'≤9223372036854775807∧k≤e'∧e'≤9223372036854775807∧Below w.heap.size w w':=by
 have HV:=Zh h.1;have HA:=Zh h.2.1;have HY:=Zh h.2.2;have HC:=Zh hc;clear h hc;obtain ⟨cs,hcs,hmk⟩:=Qty k (by omega);have HCS:=Zh hcs;clear hcs
 go_enter func88,ntmps88
 go_wp2_with fail
 (refine Qag ?_;intro w1 hw1)
 have hb1:Below w.heap.size w w1:=by rw [hw1];exact Qae
 have hJ:Blk w1 w.heap.size 120 #[.slice A n c,.slice B m d,.slice C k e]:=by rw [hw1];exact Qay
 have hR:Blk w1 (w.heap.size+1) 120 #[.slice none 0 0,.slice none 0 0,.slice none 0 0]:=by rw [hw1];exact Qay
 have hT:TyO w1 (w.heap.size+3) (w.heap.size+2) k N.ts 0:=by rw [hw1];exact TyO.start Qay HCS.out
 have hsz1:w.heap.size+3≤w1.heap.size:=by rw [hw1];simp
 clear hw1 hmk
 go_loopw [13] (fun i W=>w.heap.size+3≤W.heap.size∧Below w.heap.size w W∧Blk W w.heap.size 120 #[.slice A n c,.slice B m d,.slice C k e]∧Blk W (w.heap.size+1) 120 #[.slice none 0 0,.slice none 0 0,.slice none 0 0]∧∃ j:Nat,j≤k∧i=.int .i64 j∧TyO W (w.heap.size+3) (w.heap.size+2) k N.ts j) (fun i _=>k-(intOf i).toNat)
 case atStart=>exact ⟨hsz1,hb1,hJ,hR,0,Nat.zero_le _,rfl,hT⟩
 case round =>
  clear hsz1 hb1 hJ hR hT;obtain ⟨hsz,hbl,hJ,hR,j,hj,rfl,hT⟩:=hrel;obtain ⟨j0,j1,j2⟩:=hJ.three
  by_cases hlt:j<k
  · obtain ⟨sb,so,t,rfl,ht,cx,cy,A',n',c',cz,hr,hc1',hc2'⟩:=HY.out.at_ hlt
    have dx:=Zc hbl (Zn _) cx;have dy:=Zc hbl (Zn _) cy;have dz:=Zc hbl (Zn _) cz
    have HTC:=Zh (show ∀ V,Below w.heap.size w V→Calls prog 125 #[.slice A' n' c'] V (fun e w'=>∃ A2 c2,e=.returned (.slice A2 n' c2)∧Own w' V.heap.size 2 1 A2 n' c2 (Qad t.costs)∧Below V.heap.size V w') from
     fun V hV=>Qlz A' n' c' _ V (hr.below hV).rdsI (Qah _) (by have:=HC.out t (Zm ht);rw [hr.1] at this;omega))
    obtain ⟨⟨v0,x0⟩,f0⟩:=hT.cell (i:=j*3) (by omega);obtain ⟨⟨v1,x1⟩,f1⟩:=hT.cell (i:=j*3+1) (by omega);obtain ⟨⟨v2,x2⟩,f2⟩:=hT.cell (i:=j*3+2) (by omega);have hTlt:=hT.lt;have HT:=Zh ht;have i3:(0:Int)≤(j:Int):=by omega
    have i4:(j:Int)<(k:Int):=by omega
    clear hr ht hc1' hc2' cx cy cz
    go_wp2_with fail
    (refine Qac ?_;intro w2 hw2)
    have hT2:TyO w2 (w.heap.size+3) (w.heap.size+2) k N.ts j:=by
     rw [hw2];exact (hT.put hlt (by omega) _ _ _).1.below Qae
    have hb2:Below w.heap.size w w2:=by rw [hw2];exact Qae
    have hz2:wr.heap.size+1=w2.heap.size:=by rw [hw2];simp [World.setCell]
    have hp:=hT.put hlt (by omega) (.int .i64 t.ins) (.int .i64 t.outs) (.slice A' n' c');have p0:w2.cell? ⟨w.heap.size+2,j*3,none⟩=some (.int .i64 t.ins):=by rw [hw2];exact Zc Qae (Zn _) hp.2.1
    have p1:w2.cell? ⟨w.heap.size+2,j*3+1,none⟩=some (.int .i64 t.outs):=by rw [hw2];exact Zc Qae (Zn _) hp.2.2.1
    have hJ2:Blk w2 w.heap.size 120 #[.slice A n c,.slice B m d,.slice (some ⟨sb,so,none⟩) k e]:=by rw [hw2];exact (((hJ.far_ (by omega) _).far_ (by omega) _).far_ (by omega) _).alloc _
    have hR2:Blk w2 (w.heap.size+1) 120 #[.slice none 0 0,.slice none 0 0,.slice none 0 0]:=by rw [hw2];exact (((hR.far_ (by omega) _).far_ (by omega) _).far_ (by omega) _).alloc _
    clear hw2 hT hJ hR x0 x1 x2 f0 f1 f2 j0 j1 j2 dx dy dz hp;with_reducible refine (HTC.out w2 hb2).mono ?_
    rintro r w3 ⟨A2,c2,rfl,hown,hb3⟩;have hT3:=hT2.below hb3;have p3:=Zc hb3 (Zn _) p0;have p4:=Zc hb3 (Zn _) p1;obtain ⟨⟨v5,x5⟩,f5⟩:=hT3.cell (i:=j*3+2) (by omega);have hlt3:=hT3.lt;have hb3':Below w.heap.size w w3:=Zb hb2 hb3;have hq:=hown.ne (g:=w.heap.size+2) (by omega)
    have HN:=Zh (show TyO (w3.setCell ⟨w.heap.size+2,j*3+2,none⟩ (.slice A2 n' c2)) (w.heap.size+3) (w.heap.size+2) k N.ts (j+1) from by
     have hC:=Qaa w3 (w.heap.size+2) (j*3+2) (.slice A2 n' c2);have hown2:=hown.far hC (.inr hq);refine (hT3.set (i:=j*3+2) (by omega) (by omega) (.slice A2 n' c2)).next HT.out ?_ ?_ ?_ hown2.rds.rdI (fun q hq=>?_) hown2.cap hown2.capMax
     · rw [World.cell?_setCell_other _ _ _ _ (fun e=>by injection e with _ e1;omega)]
       exact p3
     · rw [World.cell?_setCell_other _ _ _ _ (fun e=>by injection e with _ e1;omega)]
       exact p4
     · exact World.cell?_setCell_same _ _ _ x5
     · have:=hown2.lt q hq
       exact ⟨by omega,this.2⟩)
    have HJ3:=Zh ((hJ2.below hb3 hJ2.lt).far_ (b:=w.heap.size+2) (o:=j*3+2) (by omega) (.slice A2 n' c2));have HR3:=Zh ((hR2.below hb3 hR2.lt).far_ (b:=w.heap.size+2) (o:=j*3+2) (by omega) (.slice A2 n' c2));have HB3:=Zh (show Below w.heap.size w (w3.setCell ⟨w.heap.size+2,j*3+2,none⟩ (.slice A2 n' c2)) from hb3'.setCell (by simp) _)
    have hz3:=hb3.size;clear hT2 hT3 hown p0 p1 p3 p4 hJ2 hR2 hq hb2 hb3 hb3'
    go_wp2_with fail
    go_roundw
    case rel=>exact ⟨by simp [World.setCell];omega,HB3.out,HJ3.out,HR3.out,j+1,by omega,by go_num,HN.out⟩
    case measure=>simp [intOf];omega
  · obtain rfl:k=j:=by omega
    have HCV:=Zh (show ∀ V,Below w.heap.size w V→Calls prog 126 #[.slice A n c] V (fun e w'=>∃ A2 c2,e=.returned (.slice A2 n c2)∧Own w' V.heap.size 144 3 A2 n c2 (Qat N.vs)∧Below V.heap.size V w') from
     fun V hV=>Qte A n c _ V (HV.out.below hV).rds (Qmi _) (by omega))
    have HCA:=Zh (show ∀ V,Below w.heap.size w V→Calls prog 127 #[.slice B m d] V (fun e w'=>∃ A2 c2,e=.returned (.slice A2 m c2)∧Own w' V.heap.size 146 3 A2 m c2 (Qat N.ar)∧Below V.heap.size V w') from
     fun V hV=>Qtx B m d _ V (HA.out.below hV).rds (Qmi _) (by omega))
    have HSX:=Zh (show ∀ V,Blk V w.heap.size 120 #[.slice A n c,.slice B m d,.slice C k e]→V.cell? ⟨w.heap.size,0,none⟩=some (.slice A n c)∧V.cell? ⟨w.heap.size,1,none⟩=some (.slice B m d) from fun V hV=>⟨hV.three.1,hV.three.2.1⟩)
    clear j0 j1
    go_wp2_with fail
    refine wp_region_held_drew (S:=fun V=>Blk V w.heap.size 120 #[.slice A n c,.slice B m d,.slice C k e]) (by kernel_rfl) hJ.drew (fun _=>?_);refine tz 0 30 ?_;refine tz 1 31 ?_;refine tz 3 33 ?_;refine tz 4 34 ?_;refine tz 6 36 ?_;refine Zk 2 (fun K hK=>?_);go_simp;with_reducible refine (HCV.out _ Qae).mono ?_
    rintro r w4 ⟨A2,c2,rfl,hvo,hb4⟩
    replace hvo:Own w4 wr.heap.size 144 3 A2 n c2 (Qat N.vs):=hvo
    replace hb4:Below wr.heap.size wr w4:=(Zr _ wr).drew.trans hb4
    have hbw4:Below w.heap.size w w4:=Zb hbl hb4;have hJ4:=hJ.below hb4 hJ.lt;have hR4:=hR.below hb4 hR.lt;have hl4:=hT.lt;have HTT:=Zh (hT.rdY2 (G:=fun q=>w.heap.size+3≤q∧q<wr.heap.size) HY.out.1 (fun q h1 h2=>⟨h1,h2⟩));have HTW:=Zh hT.warm;clear hJ hR hT
    go_wp2_with fail
    refine hK.out _ _ hJ4 (fun _=>?_);clear hK K;refine Zk 5 (fun K hK=>?_);go_simp;with_reducible refine (HCA.out _ Qae).mono ?_
    rintro r w5 ⟨B2,d2,rfl,hao,hb5⟩;have hbw5:Below w.heap.size w w5:=Zb hbw4 hb5;have hJ5:=hJ4.below hb5 hJ4.lt;have hR5:=hR4.below hb5 hR4.lt;have hvo5:=hvo.below hb5;have hvb:∀ b,Qab A2=some b→wr.heap.size≤b∧b<w4.heap.size:=hvo.lt
    have hab:=hao.lt;clear hJ4 hR4 hvo
    go_wp2_with fail
    refine hK.out _ _ hJ5 (fun _=>?_);clear hK K;refine tz 7 37 ?_;obtain ⟨r0,r1,r2⟩:=hR5.three;have f0:=hR5.frozen 0;have f1:=hR5.frozen 1;have f2:=hR5.frozen 2;have hrlt:=hR5.lt;refine Zk 8 (fun K hK=>?_);go_simp;refine hK.out _ _ (((hJ5.far_ (by omega) _).far_ (by omega) _).far_ (by omega) _) (fun _=>?_);clear hK K;refine Zd ?_;obtain ⟨w6,hw6⟩:∃ w6,w6=((w5.setCell ⟨w.heap.size+1,0,none⟩ (.slice A2 n c2)).setCell ⟨w.heap.size+1,1,none⟩ (.slice B2 m d2)).setCell ⟨w.heap.size+1,2,none⟩ (.slice (some ⟨w.heap.size+1+1,0,none⟩) k k):=⟨_,rfl⟩
    have hk6:∀ b,b≠w.heap.size+1→w6.heap[b]?=w5.heap[b]?:=fun b hb=>by
     rw [hw6,Below.heap_setCell _ _ _ _ hb,Below.heap_setCell _ _ _ _ hb,Below.heap_setCell _ _ _ _ hb]
    have hz6:w6.heap.size=w5.heap.size:=by rw [hw6];simp [World.setCell]
    have hz4:=hb4.size;have hz5:=hb5.size
    have hc0:w6.cell? ⟨w.heap.size+1,0,none⟩=some (.slice A2 n c2)∧w6.cell? ⟨w.heap.size+1,1,none⟩=some (.slice B2 m d2)∧w6.cell? ⟨w.heap.size+1,2,none⟩=some (.slice (some ⟨w.heap.size+1+1,0,none⟩) k k):=by
     rw [hw6];exact (((hR5.set_ 0 _).set_ 1 _).set_ 2 _).three
    have hb6:Below w.heap.size w w6:=by rw [hw6];exact Qae
    rw [←hw6];clear hw6 r0 r1 r2 f0 f1 f2 hJ5 hR5;have hv6:Rd3 w6 A2 n N.vs:=hvo5.rds.rd3.keep (fun b hb=>hk6 b (by have:=hvb b hb;omega));have ha6:Rd3 w6 B2 m N.ar:=hao.rds.rd3.keep (fun b hb=>hk6 b (by have:=hab b hb;omega));have hkt:∀ b,w.heap.size+2≤b→b<wr.heap.size→w6.heap[b]?=wr.heap[b]?:=fun b h1 h2=>(hk6 b (by omega)).trans ((hb5.block b (by omega)).trans (hb4.block b h2))
    have HR:=Zh (show Qoj w6 (fun b=>w.heap.size≤b∧b<w6.heap.size∧Qab B2≠some b∧Qab (some ⟨w.heap.size+1+1,0,none⟩)≠some b) A2 B2 (some ⟨w.heap.size+1+1,0,none⟩) n m k N from by
     refine ⟨hv6.msk (fun b hb=>?_),ha6,?_,?_,?_,fun b hb hG=>hG.2.2.1 hb,fun b hb hG=>hG.2.2.2 hb,fun b hb e=>?_⟩
     · have:=hvb b hb
       refine ⟨by omega,by omega,fun e=>?_,fun e=>?_⟩
       · have:=hab b e;omega
       · have:=Qgj e;omega
     · refine HTT.out.le (fun b o x hb hc=>Qdj (hkt b ?_ ?_) hc) ?_
       · have:=Qgj hb;omega
       · have:=Qgj hb;omega
       · refine Le.trans (Qaz.msk (W':=w6) (fun b hb hl=>hkt b (by omega) hl)) (Qbd (fun b hb=>?_))
         refine ⟨by omega,by omega,fun e=>?_,fun e=>?_⟩
         · have:=hab b e;omega
         · have:=Qgj e;omega
     · exact hao.warm.keep (by omega) (fun b hb=>hk6 b (by have:=hab b hb;omega))
     · exact HTW.out.keep (by omega) (fun b hb=>hkt b (by have:=Qgj hb;omega) (by have:=Qgj hb;omega))
     · have:=hab b hb
       have:=Qgj e;omega)
    have HB:=Zh (show ∀ b,Qab B2=some b∨Qab (some ⟨w.heap.size+1+1,0,none⟩)=some b→w.heap.size≤b from fun b hb=>by
     rcases hb with hb|hb
     · have:=hab b hb;omega
     · have:=Qgj hb;omega)
    have HCP:=Zh (show n≤c2∧c2≤9223372036854775807∧m≤d2∧d2≤9223372036854775807 from ⟨hvo5.cap,hvo5.capMax,hao.cap,hao.capMax⟩)
    obtain ⟨r0,r1,r2⟩:=hc0;clear hk6 hkt hv6 ha6 hao hvo5 hvb hab hl4 hrlt hz4 hz5 hz6 hbw4 hbw5 hb4 hb5
    go_wp2_with fail
    refine bodyPost_ret (v:=.agg #[.slice A2 n c2,.slice B2 m d2,.slice (some ⟨w.heap.size+1+1,0,none⟩) k k]) (by simp [results,results88,go_sem,r0,r1,r2]) rfl ?_;exact ⟨A2,B2,_,c2,d2,k,rfl,HR.out,HB.out,HCP.out.1,HCP.out.2.1,HCP.out.2.2.1,HCP.out.2.2.2,by omega,by omega,hb6⟩
theorem IkO.far {W W':World}{B g n:Nat}{A:Option Addr} {ls:List (List Int)} (h:IkO W B g n ls) (hg:W.grownBy W' (Qab A)) (hA:Qab A≠some g) (hd:∀ (v:Nat) X m c,W.cell? ⟨g,v,none⟩=some (.slice X m c)→Dj A X):IkO W' B g n ls:=by
 obtain ⟨h1,h2,cs,h3,h4,h5,h6⟩:=h;refine ⟨h1,h2,cs,h3.grown hg hA,h4,fun v l hl=>?_,h6⟩;obtain ⟨X,c,k1,k2⟩:=h5 v l hl;exact ⟨X,c,k1,k2.far hg (hd v X _ _ (by rw [h3.cell];exact k1)).far⟩
def Ik2 (W:World)(B g1 g2 n:Nat) (l1 l2:List (List Int)):Prop :=
 IkO W B g1 n l1∧IkO W B g2 n l2∧g1≠g2∧∀ (v v':Nat) A m c A' m' c',W.cell? ⟨g1,v,none⟩=some (.slice A m c)→W.cell? ⟨g2,v',none⟩=some (.slice A' m' c')→Dj A A'
theorem Ik2.swap {W:World}{B g1 g2 n:Nat} {l1 l2:List (List Int)} (h:Ik2 W B g1 g2 n l1 l2):Ik2 W B g2 g1 n l2 l1 :=
 ⟨h.2.1,h.1,fun e=>h.2.2.1 e.symm,fun v v' A m c A' m' c' e1 e2=>(h.2.2.2 v' v A' m' c' A m c e2 e1).symm⟩
theorem Ik2.start {W:World}{B g1 g2 n:Nat}(h1:g1<B)(h2:g2<B)(hne:g1≠g2) (b1:Blk W g1 93 (Qbc (.slice none 0 0) n)) (b2:Blk W g2 93 (Qbc (.slice none 0 0) n)):Ik2 W B g1 g2 n (List.replicate n []) (List.replicate n []):=by
 refine ⟨IkO.start h1 b1,IkO.start h2 b2,hne,fun v v' A m c A' m' c' e1 _=>?_⟩;rw [b1.cell] at e1;have e:=(Array.getElem?_eq_some_iff.1 e1).2;simp [Qbc] at e;obtain ⟨rfl,_,_⟩:=e;exact .inl rfl
theorem Ik2.below {W W':World}{B g1 g2 n:Nat} {l1 l2:List (List Int)} (h:Ik2 W B g1 g2 n l1 l2) (hb:Below W.heap.size W W'):Ik2 W' B g1 g2 n l1 l2:=by
 refine ⟨h.1.below hb,h.2.1.below hb,h.2.2.1,fun v v' A m c A' m' c' e1 e2=>?_⟩;rw [hb.cell (p:=⟨g1,v,none⟩) h.1.lt] at e1;rw [hb.cell (p:=⟨g2,v',none⟩) h.2.1.lt] at e2;exact h.2.2.2 v v' A m c A' m' c' e1 e2
theorem Ik2.set {W:World}{B g1 g2 n b i:Nat} {l1 l2:List (List Int)} (h:Ik2 W B g1 g2 n l1 l2) (h1:b≠g1) (h2:b≠g2) (hB:b<B) (v:Value):Ik2 (W.setCell ⟨b,i,none⟩ v) B g1 g2 n l1 l2:=by
 have hg:=Qaa W b i v;refine ⟨h.1.grown hg (fun q e=>by cases e;exact ⟨h1,hB⟩),h.2.1.grown hg (fun q e=>by cases e;exact ⟨h2,hB⟩),h.2.2.1,fun u u' A m c A' m' c' e1 e2=>?_⟩
 rw [World.cell?_setCell_other _ _ _ _ (fun e=>h1 (by injection e))] at e1;rw [World.cell?_setCell_other _ _ _ _ (fun e=>h2 (by injection e))] at e2;exact h.2.2.2 u u' A m c A' m' c' e1 e2
theorem IkO.rowAt {W:World}{B g n v m c:Nat}{X:Option Addr} {ls:List (List Int)} (h:IkO W B g n ls) (hc:W.cell? ⟨g,v,none⟩=some (.slice X m c)):∃ xs,Own W B 3 1 X m c xs:=by
 obtain ⟨h1,h2,cs,h3,h4,h5,h6⟩:=h;rw [h3.cell] at hc;have hv:=(Array.getElem?_eq_some_iff.1 hc).1;obtain ⟨A,c',k1,k2⟩:=h5 v _ (Zg (show v<ls.length by omega))
 rw [hc] at k1
 cases k1
 exact ⟨_,k2⟩
theorem Ik2.push {W w':World}{B g1 g2 n u c c':Nat}{A A':Option Addr} {l1 l2:List (List Int)} {l:List Int} {k:Int} (h:Ik2 W B g1 g2 n l1 l2) (hl:l1[u]?=some l) (hc:W.cell? ⟨g1,u,none⟩=some (.slice A l.length c))
 (hown:Own w' B 3 1 A' (l.length+1) c' (Qad l ++Qad [k])) (hg:W.grownBy w' (Qab A)) (hat:Qab A'=Qab A∨Qab A'=some W.heap.size) :
 Ik2 (w'.setCell ⟨g1,u,none⟩ (.slice A' (l.length+1) c')) B g1 g2 n (l1.set u (l ++[k])) l2:=by
 obtain ⟨h1,h2,hne,h3⟩:=h;obtain ⟨xs,hA⟩:=h1.rowAt hc;have hB1:g1<B:=h1.2.1
 have hB2:g2<B:=h2.2.1
 have hA2:Qab A≠some g2:=hA.ne hB2;have hA1:Qab A≠some g1:=hA.ne hB1;have hd:∀ (v:Nat) X m d,W.cell? ⟨g2,v,none⟩=some (.slice X m d)→Dj A X:=fun v X m d e=>h3 u v _ _ _ _ _ _ hc e
 have hcell2:∀ v,w'.cell? ⟨g2,v,none⟩=W.cell? ⟨g2,v,none⟩:=fun v=>World.cell?_of_block (hg.block g2 h2.lt (fun e=>hA2 e.symm))
 have hcell1:∀ v,w'.cell? ⟨g1,v,none⟩=W.cell? ⟨g1,v,none⟩:=fun v=>World.cell?_of_block (hg.block g1 h1.lt (fun e=>hA1 e.symm))
 refine ⟨h1.push hl hc hown hg hat,(h2.far hg hA2 hd).grown (Qaa _ _ _ _) (fun q e=>by cases e;exact ⟨hne,hB1⟩),hne,fun v v' X m d X' m' d' e1 e2=>?_⟩
 rw [World.cell?_setCell_other _ _ _ _ (fun e=>hne (by injection e)),hcell2] at e2
 by_cases e:u=v
 · subst e
   rw [World.cell?_setCell_same _ _ _ (by rw [hcell1];exact hc)] at e1
   cases e1
   obtain ⟨ys,hX⟩:=h2.rowAt e2;exact (hd v' _ _ _ e2).next hX hat
 · rw [World.cell?_setCell_other _ _ _ _ (fun e'=>e (by injection e')),hcell1] at e1
   exact h3 v v' _ _ _ _ _ _ e1 e2
def PlO (W:World)(g m:Nat)(ar:List Tri)(j:Nat):Prop :=
 ∃ cs,Blk W g 231 cs∧cs.size=m*2∧∀ (i:Nat) (a:Tri),i<j→ar[i]?=some a→cs[i*2]?=some (.int .i64 (Qfi ar i a).1)∧cs[i*2+1]?=some (.int .i64 (Qfi ar i a).2)
theorem PlO.start {W:World}{g m:Nat}{ar:List Tri}{cs:Array Value}(h:Blk W g 231 cs)(hs:cs.size=m*2):PlO W g m ar 0:=⟨cs,h,hs,fun _ _ hi=>absurd hi (Nat.not_lt_zero _)⟩
theorem PlO.grown {W W':World}{g m j:Nat}{ar:List Tri}{r:Option Nat}(h:PlO W g m ar j)(hg:W.grownBy W' r)(hr:r≠some g):PlO W' g m ar j:=by
 obtain ⟨cs,h1,h2⟩:=h;exact ⟨cs,h1.grown hg hr,h2⟩
theorem PlO.below {W W':World}{g m j:Nat}{ar:List Tri}(h:PlO W g m ar j)(hb:Below W.heap.size W W'):PlO W' g m ar j:=by
 obtain ⟨cs,h1,h2⟩:=h;exact ⟨cs,h1.below hb h1.lt,h2⟩
theorem PlO.cell {W:World}{g m j i:Nat}{ar:List Tri}(h:PlO W g m ar j)(hi:i<m*2):(∃ v,W.cell? ⟨g,i,none⟩=some v)∧W.frozen? ⟨g,i,none⟩=false:=by
 obtain ⟨cs,h1,h2,h3⟩:=h;exact ⟨⟨_,by rw [h1.cell];exact Array.getElem?_eq_getElem (by omega)⟩,h1.frozen i⟩
theorem PlO.next {W:World}{g m j:Nat}{ar:List Tri}{a:Tri}(h:PlO W g m ar j)(hj:j<m) (ha:ar[j]?=some a):PlO ((W.setCell ⟨g,j*2,none⟩ (.int .i64 (Qfi ar j a).1)).setCell ⟨g,j*2+1,none⟩ (.int .i64 (Qfi ar j a).2)) g m ar (j+1):=by
 obtain ⟨cs,h1,h2,h3⟩:=h;refine ⟨_,(h1.set_ _ _).set_ _ _,by simpa using h2,fun i x hi hx=>?_⟩
 by_cases e:i=j
 · subst e
   rw [ha] at hx
   cases hx
   refine ⟨?_,?_⟩
   · rw [Array.getElem?_setIfInBounds_ne (by omega),Array.getElem?_setIfInBounds_self_of_lt (by omega)]
   · rw [Array.getElem?_setIfInBounds_self_of_lt (by rw [Array.size_setIfInBounds];omega)]
 · rw [Array.getElem?_setIfInBounds_ne (by omega),Array.getElem?_setIfInBounds_ne (by omega),Array.getElem?_setIfInBounds_ne (by omega),Array.getElem?_setIfInBounds_ne (by omega)]
   exact h3 i x (by omega) hx
theorem PlO.rdP {W:World}{g m:Nat}{ar:List Tri}(h:PlO W g m ar m)(hl:ar.length=m):RdP W (some ⟨g,0,none⟩) m (plcs ar):=by
 obtain ⟨cs,h1,h2,h3⟩:=h;refine ⟨by rw [Qji];exact hl,fun i x hx=>?_⟩;have hi:=(Zs hx).1;rw [Qji] at hi;have ha:ar[i]?=some ar[i]:=Zg hi;rw [Qht ha] at hx
 cases hx
 obtain ⟨k1,k2⟩:=h3 i _ (by omega) ha;exact ⟨g,0,rfl,by rw [h1.cell,Nat.zero_add];exact k1,by rw [h1.cell,Nat.zero_add];exact k2⟩
theorem infoPl:(Tryz.prog.info? 231).map (fun i=>(i.zero,i.size,i.bytes))=some (some (.agg #[.int .i64 0,.int .i64 0]),2,16):=by kernel_rfl
theorem Qhb:(Tryz.prog.info? 93).map (fun i=>(i.zero,i.size,i.bytes))=some (some (.slice none 0 0),1,24):=by kernel_rfl
theorem Qun (k:Nat)(hk:k≤1000000):∃ cs:Array Value,cs.size=k*2∧∀ W:World,(Instr.makeSlice 147 (.int .i64 (k:Int)) (.int .i64 (k:Int))).run prog W=.ok (.slice (some ⟨W.heap.size,0,none⟩) k k) (W.alloc (.cells cs 231)):=by
 obtain ⟨i,hi,hz,hs,hbb⟩:=info_parts infoPl
 have hb':(i.bytes:Int)*(k:Int)≤281474976710656:=by
  rw [hbb];omega
 refine ⟨madeCells (Value.agg #[.int .i64 0,.int .i64 0]).cells (k*i.size),by rw [size_madeCells,hs],fun W=>?_⟩;have hr:=run_make (P:=prog) W 147 231 i _ underlying147 hi hz .i64 .i64 k k (by omega) (by omega) hb' (by omega);simp only [Int.toNat_natCast] at hr;exact hr
theorem Que (n:Nat)(hn:n≤1000000)(W:World):(Instr.makeSlice 27 (.int .i64 (n:Int)) (.int .i64 (n:Int))).run prog W=.ok (.slice (some ⟨W.heap.size,0,none⟩) n n) (W.alloc (.cells (Qbc (.slice none 0 0) n) 93)) :=
 Qec (P:=prog) 27 93 (.slice none 0 0) 24 Qhb underlying27 rfl n (by omega) (by omega) .i64 .i64 W
structure Got3 (W:World) (n m:Nat) (cs:Array Value) (i o p:Nat) (w':World):Prop where
 sz:w'.heap.size=W.heap.size+3
 io:i≠o
 ip:i≠p
 op:o≠p
 li:W.heap.size≤i∧i<W.heap.size+3
 lo:W.heap.size≤o∧o<W.heap.size+3
 lp:W.heap.size≤p∧p<W.heap.size+3
 bi:Blk w' i 93 (Qbc (.slice none 0 0) n)
 bo:Blk w' o 93 (Qbc (.slice none 0 0) n)
 bp:Blk w' p 231 cs
 bl:Below W.heap.size W w'
def Qnl (W:World)(n m:Nat)(cs:Array Value)(v1 v2 v3:Value)(w':World):Prop:=∃ i o p:Nat,v1=.slice (some ⟨i,0,none⟩) n n∧v2=.slice (some ⟨o,0,none⟩) n n∧v3=.slice (some ⟨p,0,none⟩) m m∧Got3 W n m cs i o p w'
theorem Qnl.of {W:World}{n m:Nat}{cs:Array Value}{w':World}(i o p:Nat)(h:Got3 W n m cs i o p w'):Qnl W n m cs (.slice (some ⟨i,0,none⟩) n n) (.slice (some ⟨o,0,none⟩) n n) (.slice (some ⟨p,0,none⟩) m m) w':=⟨i,o,p,rfl,rfl,rfl,h⟩
end Go.Proofs.YthoagdpakddbdaaGreatDoor
