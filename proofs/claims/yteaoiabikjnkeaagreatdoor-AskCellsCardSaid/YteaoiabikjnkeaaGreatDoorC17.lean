/- Parts of the proof: RoP, RfI, RoQ, RfC, RoM, RoR, AsQ, AsM, Pp, AsL. -/
import Derived.Test.YteaoiabikjnkeaaGreatDoorC1
import Derived.Test.YteaoiabikjnkeaaGreatDoorC3
import Derived.Test.YteaoiabikjnkeaaGreatDoorC7
import Derived.Test.YteaoiabikjnkeaaGreatDoorC10
import Derived.Test.YteaoiabikjnkeaaGreatDoorC11
import Derived.Test.YteaoiabikjnkeaaGreatDoorC13
import Derived.Test.YteaoiabikjnkeaaGreatDoorC14
import Derived.Test.YteaoiabikjnkeaaGreatDoorC16
namespace Go.Proofs.YteaoiabikjnkeaaGreatDoor
open Go.RowKit Tryz
section
variable {N:Qaq} {mk:List Bool} {s t:Nat} {d:List Int} {best:Int}
end
attribute [local go_sem ↓] Go.wp_at_zero Go.wp_at_succ
set_option maxHeartbeats 1000000 in
theorem Qtn (A B C:Option Addr)(n m k c d e:Nat)(N:Qaq)(v:Int)(w:World)(h:Qca w A B C n m k N)(hm:m≤16384) :
 Calls prog 141 #[.agg #[.slice A n c,.slice B m d,.slice C k e],.int .i64 v] w fun r w'=>∃ A' n' c',r=.returned (.slice A' n' c')∧RdI w' A' n' (idx (·.2.1) N.ar v)∧Below w.heap.size w w':=by
 have HH:=Zh h;have HM:=Zh h.2.1.1;clear h
 go_enter func141,ntmps141
 go_wp2_with fail
 (refine Qaj ?_;intro w1 hw1)
 have hb1:Below w.heap.size w w1:=by rw [hw1];exact Qah
 have hX:Blk w1 w.heap.size 26 #[.slice A n c,.slice B m d,.slice C k e]:=by rw [hw1];exact Blk.new _ _ _
 clear hw1
 go_loopw [5,6] (fun z q V=>∃ (i:Nat) (A':Option Addr) (c':Nat),i≤m∧q=.int .i64 i∧z=.slice A' (idx (·.2.1) (N.ar.take i) v).length c'∧Own V w1.heap.size 3 1 A' (idx (·.2.1) (N.ar.take i) v).length c' (Qag (idx (·.2.1) (N.ar.take i) v))∧Below w1.heap.size w1 V) (fun _ q _=>m-(intOf q).toNat)
 case atStart=>exact ⟨0,none,0,Nat.zero_le _,rfl,rfl,Own.nil _ _ _ _,Zr _ _⟩
 case round =>
  obtain ⟨i,A',c',hi,rfl,rfl,hown,hbl⟩:=hrel;have hXr:=hX.below hbl hX.lt;have x1:=hXr.cell 1;have xl:=hXr.lt;simp only [List.getElem?_toArray,List.getElem?_cons_zero,List.getElem?_cons_succ] at x1;have hbd:=Qgt (·.2.1) N.ar i v;have HOW:=Zh hown;obtain ⟨no,hno⟩:∃ no,no=(idx (·.2.1) (N.ar.take i) v).length:=⟨_,rfl⟩;rw [←hno] at hbd ⊢;have HNO:=Zh hno;clear hown hno
  by_cases hlt:i<m
  rotate_left
  · obtain rfl:i=m:=by omega
    have i1:¬((i:Int)<(i:Int)):=by omega
    go_wp2_with fail
    go_ret
    refine ⟨A',no,⟨c',rfl⟩,?_,Zb hb1 hbl⟩;have:=HOW.out.rds.rdI;rw [List.take_of_length_le (by rw [HM.out];exact Zn _)] at this;rw [HNO.out,List.take_of_length_le (by rw [HM.out];exact Zn _)];exact this
  · have hbw:=Zb hb1 hbl
    obtain ⟨y,hy⟩:∃ y,N.ar[i]?=some y:=⟨_,Zg (by rw [HM.out];exact hlt)⟩;obtain ⟨b,o,rfl,c0,c1,c2⟩:=(HH.out.below hbw).2.1.2 i y hy;have HY:=Zh hy;have i1:(i:Int)<(m:Int):=by omega
    have i2:(0:Int)≤(i:Int):=by omega
    clear hy
    by_cases hv:y.2.1=v
    · have e1:(y.2.1 == v)=true:=by simpa using hv
      have hown2:=HOW.out;rw [←HNO.out] at hown2;obtain ⟨W2,hW2⟩:∃ W2,W2=wr.alloc (.cells #[.int .i64 i] 3):=⟨_,rfl⟩;have hown3:Own W2 w1.heap.size 3 1 A' no c' (Qag (idx (·.2.1) (N.ar.take i) v)):=by rw [hW2];exact hown2.alloc _
      have hrd:Rds W2 1 (some ⟨wr.heap.size,0,none⟩) 1 (Qag [(i:Int)]):=by rw [hW2];exact (Blk.new wr 3 #[.int .i64 i]).rds rfl
      have hba:Below w1.heap.size w1 W2:=by rw [hW2];exact Below.alloc hbl hbl.size _
      have hsz:w1.heap.size≤W2.heap.size:=hba.size;have HW2:=Zh hW2;have HE:=Zh hv;clear hW2 hown2 hv
      go_wp2_with (at_builtin;rw [←HW2.out];with_reducible refine Qap rfl (.tmp 22) (.tmp 24) 67 rfl 3 _ 1 8 Qbb underlying67 rfl (by omega) rfl rfl hown3 hrd (Qak _) (by omega) (by omega) hsz ?_)
      intro A3 c3 w8 ho8 hg8 _;have hb8:Below w1.heap.size w1 w8:=Bel.grownOwn hba hg8 hown3 hsz;have HO8:=Zh (show Own w8 w1.heap.size 3 1 A3 (no+1) c3 (Qag (idx (·.2.1) (N.ar.take (i+1)) v)) by rw [Qee HY.out,e1,if_pos rfl,Qbr];exact ho8)
      have HN1:=Zh (show (idx (·.2.1) (N.ar.take (i+1)) v).length=no+1 by rw [Qee HY.out,e1,if_pos rfl,List.length_append,←HNO.out];rfl)
      clear hown3 hrd hba hsz ho8 hg8
      go_wp2_with fail
      go_roundw
      case rel=>exact ⟨i+1,A3,c3,by omega,by go_num,by rw [HN1.out],by rw [HN1.out];exact HO8.out,hb8⟩
      case measure=>simp [intOf];omega
    · have e1:(y.2.1 == v)=false:=by simpa using hv
      have HN1:=Zh (show idx (·.2.1) (N.ar.take (i+1)) v=idx (·.2.1) (N.ar.take i) v by rw [Qee HY.out,e1];simp)
      have HE:=Zh hv;clear hv
      go_wp2_with fail
      go_roundw
      case rel=>exact ⟨i+1,A',c',by omega,by go_num,by rw [HN1.out,HNO.out],by rw [HN1.out];exact HOW.out,hbl⟩
      case measure=>simp [intOf];omega
set_option maxHeartbeats 1000000 in
theorem Qpf (A B C:Option Addr)(n m k c d e:Nat)(N:Qaq)(v:Int)(w:World)(h:Qca w A B C n m k N)(hm:m≤16384) :
 Calls prog 142 #[.agg #[.slice A n c,.slice B m d,.slice C k e],.int .i64 v] w fun r w'=>∃ A' n' c',r=.returned (.slice A' n' c')∧RdI w' A' n' (idx (·.1) N.ar v)∧Below w.heap.size w w':=by
 have HH:=Zh h;have HM:=Zh h.2.1.1;clear h
 go_enter func142,ntmps142
 go_wp2_with fail
 (refine Qaj ?_;intro w1 hw1)
 have hb1:Below w.heap.size w w1:=by rw [hw1];exact Qah
 have hX:Blk w1 w.heap.size 26 #[.slice A n c,.slice B m d,.slice C k e]:=by rw [hw1];exact Blk.new _ _ _
 clear hw1
 go_loopw [5,6] (fun z q V=>∃ (i:Nat) (A':Option Addr) (c':Nat),i≤m∧q=.int .i64 i∧z=.slice A' (idx (·.1) (N.ar.take i) v).length c'∧Own V w1.heap.size 3 1 A' (idx (·.1) (N.ar.take i) v).length c' (Qag (idx (·.1) (N.ar.take i) v))∧Below w1.heap.size w1 V) (fun _ q _=>m-(intOf q).toNat)
 case atStart=>exact ⟨0,none,0,Nat.zero_le _,rfl,rfl,Own.nil _ _ _ _,Zr _ _⟩
 case round =>
  obtain ⟨i,A',c',hi,rfl,rfl,hown,hbl⟩:=hrel;have hXr:=hX.below hbl hX.lt;have x1:=hXr.cell 1;have xl:=hXr.lt;simp only [List.getElem?_toArray,List.getElem?_cons_zero,List.getElem?_cons_succ] at x1;have hbd:=Qgt (·.1) N.ar i v;have HOW:=Zh hown;obtain ⟨no,hno⟩:∃ no,no=(idx (·.1) (N.ar.take i) v).length:=⟨_,rfl⟩;rw [←hno] at hbd ⊢;have HNO:=Zh hno;clear hown hno
  by_cases hlt:i<m
  rotate_left
  · obtain rfl:i=m:=by omega
    have i1:¬((i:Int)<(i:Int)):=by omega
    go_wp2_with fail
    go_ret
    refine ⟨A',no,⟨c',rfl⟩,?_,Zb hb1 hbl⟩;have:=HOW.out.rds.rdI;rw [List.take_of_length_le (by rw [HM.out];exact Zn _)] at this;rw [HNO.out,List.take_of_length_le (by rw [HM.out];exact Zn _)];exact this
  · have hbw:=Zb hb1 hbl
    obtain ⟨y,hy⟩:∃ y,N.ar[i]?=some y:=⟨_,Zg (by rw [HM.out];exact hlt)⟩;obtain ⟨b,o,rfl,c0,c1,c2⟩:=(HH.out.below hbw).2.1.2 i y hy;have HY:=Zh hy;have i1:(i:Int)<(m:Int):=by omega
    have i2:(0:Int)≤(i:Int):=by omega
    clear hy
    by_cases hv:y.1=v
    · have e1:(y.1 == v)=true:=by simpa using hv
      have hown2:=HOW.out;rw [←HNO.out] at hown2;obtain ⟨W2,hW2⟩:∃ W2,W2=wr.alloc (.cells #[.int .i64 i] 3):=⟨_,rfl⟩;have hown3:Own W2 w1.heap.size 3 1 A' no c' (Qag (idx (·.1) (N.ar.take i) v)):=by rw [hW2];exact hown2.alloc _
      have hrd:Rds W2 1 (some ⟨wr.heap.size,0,none⟩) 1 (Qag [(i:Int)]):=by rw [hW2];exact (Blk.new wr 3 #[.int .i64 i]).rds rfl
      have hba:Below w1.heap.size w1 W2:=by rw [hW2];exact Below.alloc hbl hbl.size _
      have hsz:w1.heap.size≤W2.heap.size:=hba.size;have HW2:=Zh hW2;have HE:=Zh hv;clear hW2 hown2 hv
      go_wp2_with (at_builtin;rw [←HW2.out];with_reducible refine Qap rfl (.tmp 22) (.tmp 24) 67 rfl 3 _ 1 8 Qbb underlying67 rfl (by omega) rfl rfl hown3 hrd (Qak _) (by omega) (by omega) hsz ?_)
      intro A3 c3 w8 ho8 hg8 _;have hb8:Below w1.heap.size w1 w8:=Bel.grownOwn hba hg8 hown3 hsz;have HO8:=Zh (show Own w8 w1.heap.size 3 1 A3 (no+1) c3 (Qag (idx (·.1) (N.ar.take (i+1)) v)) by rw [Qee HY.out,e1,if_pos rfl,Qbr];exact ho8)
      have HN1:=Zh (show (idx (·.1) (N.ar.take (i+1)) v).length=no+1 by rw [Qee HY.out,e1,if_pos rfl,List.length_append,←HNO.out];rfl)
      clear hown3 hrd hba hsz ho8 hg8
      go_wp2_with fail
      go_roundw
      case rel=>exact ⟨i+1,A3,c3,by omega,by go_num,by rw [HN1.out],by rw [HN1.out];exact HO8.out,hb8⟩
      case measure=>simp [intOf];omega
    · have e1:(y.1 == v)=false:=by simpa using hv
      have HN1:=Zh (show idx (·.1) (N.ar.take (i+1)) v=idx (·.1) (N.ar.take i) v by rw [Qee HY.out,e1];simp)
      have HE:=Zh hv;clear hv
      go_wp2_with fail
      go_roundw
      case rel=>exact ⟨i+1,A',c',by omega,by go_num,by rw [HN1.out,HNO.out],by rw [HN1.out];exact HOW.out,hbl⟩
      case measure=>simp [intOf];omega
theorem Qhh (Q:Option Addr)(L cq i:Nat)(w:World)(hi:i<L) :
 Calls prog 104 #[.agg #[.slice Q L cq],.int .i64 ((i:Int)+1)] w fun r w'=>r=.returned (.bool true)∧Below w.heap.size w w':=by
 have i1:(1:Int)≤(i:Int)+1:=by omega
 have i2:(i:Int)+1≤(L:Int):=by omega
 go_enter func104,ntmps104
 go_wp2
 go_ret
 exact ⟨Qbh (by first|(simp;done)|(simp;omega)),Qah⟩
set_option maxHeartbeats 2000000 in
theorem Qgn (A B C Q:Option Addr)(n m k c d e L cq li:Nat)(N:Qaq) (ls:List (List Int)) (l:List Int) (w:World) (h:Qca w A B C n m k N) (hok:Qaw N) (hq:RdT w Q L ls) (hl:ls[li]?=some l) (hll:l.length=N.vs.length) (hL:L≤1000000) :
 Calls prog 119 #[.agg #[.slice A n c,.slice B m d,.slice C k e],.agg #[.slice Q L cq],.int .i64 ((li:Int)+1)] w fun r w'=>∃ A' n' c',r=.returned (.slice A' n' c')∧RdI w' A' n' (Qau N.ar l)∧(∀ b,Qac A'=some b→w.heap.size≤b)∧Below w.heap.size w w':=by
 have HH:=Zh h;have HM:=Zh h.2.1.1;have hm:m≤16384:=by rw [←h.2.1.1];exact hok.la
 have hliL:li<L:=by rw [←hq.1];exact (Zs hl).1
 obtain ⟨qb,qo,LA,ln,lc,l',rfl,hl',q1,q2,q3,q4⟩:=hq.at_ hliL;rw [hl] at hl'
 cases hl'
 have hln:ln=N.vs.length:=by rw [←q2.1];exact hll
 have i5:(li:Int)+1-1=(li:Int):=by omega
 have i6:(li:Int)<(L:Int):=by omega
 have i7:(0:Int)≤(li:Int):=by omega
 have wl:IntKind.i64.wrap (li:Int)=(li:Int):=IntWalk.i64_in _ (by omega);have HQ:=Zh q2;have HQ1:=Zh q1;have HLN:=Zh hln;have hlv:=hok.lv;have HAR:=Zh hok.arcs;clear h hq hl q1 q2 q3 q4 hll hln hok
 go_enter func119,ntmps119
 go_wp2_with fail
 (refine Qaj ?_;intro w1 hw1)
 have hb1:Below w.heap.size w w1:=by rw [hw1];exact Qah
 have hX:Blk w1 w.heap.size 26 #[.slice A n c,.slice B m d,.slice C k e]:=by
  rw [hw1];refine Blk.alloc ?_ _;exact Blk.new _ _ _
 have hY:Blk w1 (w.heap.size+1) 29 #[.slice (some ⟨qb,qo,none⟩) L cq]:=by
  rw [hw1];refine Blk.new' _ _ _ ?_;simp
 clear hw1
 go_loopw [7,8] (fun z q V=>∃ (i:Nat) (A':Option Addr) (c':Nat),i≤m∧q=.int .i64 i∧z=.slice A' (Qhp (Qcg l) (N.ar.take i)).length c'∧Own V w1.heap.size 3 1 A' (Qhp (Qcg l) (N.ar.take i)).length c' (Qag (Qhp (Qcg l) (N.ar.take i)))∧Below w1.heap.size w1 V) (fun _ q _=>m-(intOf q).toNat)
 case atStart=>exact ⟨0,none,0,Nat.zero_le _,rfl,rfl,Own.nil _ _ _ _,Zr _ _⟩
 case round =>
  obtain ⟨i,A',c',hi,rfl,rfl,hown,hbl⟩:=hrel;have hXr:=hX.below hbl hX.lt;have hYr:=hY.below hbl hY.lt;have x1:=hXr.cell 1;have xl:=hXr.lt;have y0:=hYr.cell 0;have yl:=hYr.lt;simp only [List.getElem?_toArray,List.getElem?_cons_zero,List.getElem?_cons_succ] at x1 y0;have hbd:(Qhp (Qcg l) (N.ar.take i)).length≤i:=Nat.le_trans (Qff _ _) (by rw [List.length_take];omega);have HOW:=Zh hown;obtain ⟨no,hno⟩:∃ no,no=(Qhp (Qcg l) (N.ar.take i)).length:=⟨_,rfl⟩;rw [←hno] at hbd ⊢;have HNO:=Zh hno;clear hown hno
  by_cases hlt:i<m
  rotate_left
  · obtain rfl:i=m:=by omega
    have i1:¬((i:Int)<(i:Int)):=by omega
    go_wp2_with fail
    go_ret
    refine ⟨A',no,⟨c',rfl⟩,?_,fun b hb=>by have:=(HOW.out.lt b hb).1;have:=hb1.size;omega,Zb hb1 hbl⟩;have:=HOW.out.rds.rdI;rw [List.take_of_length_le (by rw [HM.out];exact Zn _)] at this;rw [HNO.out,List.take_of_length_le (by rw [HM.out];exact Zn _)];exact this
  · have i1:(i:Int)<(m:Int):=by omega
    have i2:(0:Int)≤(i:Int):=by omega
    go_wp2_with fail
    with_reducible refine (Qhh _ L cq li wr hliL).mono ?_
    rintro r w2 ⟨rfl,hb2⟩;have hbl2:=Zb hbl hb2;have HOW2:=Zh (HOW.out.below hb2);have hbw:=Zb hb1 hbl2;clear x1 xl y0 yl hXr hYr hb2 hbl HOW;obtain ⟨y,hy⟩:∃ y,N.ar[i]?=some y:=⟨_,Zg (by rw [HM.out];exact hlt)⟩;obtain ⟨b,o,rfl,c0,c1,c2⟩:=(HH.out.below hbw).2.1.2 i y hy;have ho:=HAR.out y (Zm hy);have f0:=ho.f0;have f1:=ho.f1;have g0:=ho.g0;have g1:=ho.g1;obtain ⟨u,hu⟩:∃ u:Nat,y.1=(u:Int):=⟨y.1.toNat,by omega⟩;obtain ⟨v,hv⟩:∃ v:Nat,y.2.1=(v:Int):=⟨y.2.1.toNat,by omega⟩;rw [hu] at c0;rw [hv] at c1;have hun:u<ln:=by rw [HLN.out];omega
    have hvn:v<ln:=by rw [HLN.out];omega
    obtain ⟨b1,o1,z1,rfl,hz1,d1⟩:=(HQ.out.below hbw).at_ hun;obtain ⟨b1',o1',z2,e',hz2,d2⟩:=(HQ.out.below hbw).at_ hvn
    cases e'
    have hqc:=Zc hbw (Zn _) HQ1.out;have hXr:=hX.below hbl2 hX.lt;have hYr:=hY.below hbl2 hY.lt
    have hcr:Qcg l y=(z1 != z2):=by
     unfold Qcg;rw [hu,hv,Qar hz1,Qar hz2]
    have j1:(u:Int)<(ln:Int):=by omega
    have j2:(v:Int)<(ln:Int):=by omega
    have j3:(0:Int)≤(u:Int):=by omega
    have j4:(0:Int)≤(v:Int):=by omega
    have HY:=Zh hy;have HCR:=Zh hcr
    have HSX:=Zh (show ∀ V,Below w2.heap.size w2 V→V.cell? ⟨w.heap.size,1,none⟩=some (.slice (some ⟨b,o,none⟩) m d)∧V.cell? ⟨w.heap.size+1,0,none⟩=some (.slice (some ⟨qb,qo,none⟩) L cq)∧V.cell? ⟨qb,qo+li,none⟩=some (.slice (some ⟨b1,o1,none⟩) ln lc)∧V.cell? ⟨b,o+i*3,none⟩=some (.int .i64 u)∧V.cell? ⟨b,o+i*3+1,none⟩=some (.int .i64 v)∧V.cell? ⟨b1,o1+u,none⟩=some (.int .i64 z1)∧V.cell? ⟨b1,o1+v,none⟩=some (.int .i64 z2) from
     fun V hV=>⟨by rw [(hXr.below hV hXr.lt).cell];rfl,by rw [(hYr.below hV hYr.lt).cell];rfl,Zc hV (Zn _) hqc,Zc hV (Zn _) c0,Zc hV (Zn _) c1,Zc hV (Zn _) d1,Zc hV (Zn _) d2⟩)
    clear hy hcr c0 c1 c2 d1 d2 hqc hXr hYr hu hv hz1 hz2 f0 f1 g0 g1 ho
    go_wp2_with fail
    refine wp_region_held_drew (S:=fun V=>Below w2.heap.size w2 V) (by kernel_rfl) (Zr _ _).drew (fun _=>?_);refine tz 0 21 ?_;refine tz 1 22 ?_;refine tz 2 23 ?_;refine tz 3 24 ?_;refine tz 4 25 ?_;refine tz 5 26 ?_;refine tz 6 27 ?_;refine tz 7 28 ?_;refine tz 8 29 ?_;refine tz 9 30 ?_;refine tz 10 31 ?_;refine tz 11 32 ?_;refine tz 12 33 ?_;refine tz 13 34 ?_;refine tz 14 35 ?_;refine tz 15 36 ?_;refine tz 16 37 ?_;refine tz 17 38 ?_;refine tz 18 39 ?_;refine tz 19 40 ?_;refine tz 20 41 ?_;refine tz 21 42 ?_;refine tz 22 43 ?_;refine tz 23 44 ?_;refine tz 24 45 ?_;refine tz 25 46 ?_;refine tz 26 47 ?_;refine tz 27 48 ?_;refine tz 28 49 ?_;refine Zd ?_;clear HSX
    by_cases hv:z1=z2
    · have e1:(z1 != z2)=false:=by simpa using hv
      have HN1:=Zh (show Qhp (Qcg l) (N.ar.take (i+1))=Qhp (Qcg l) (N.ar.take i) by rw [Qjz HY.out,HCR.out,e1];simp)
      have HE:=Zh hv;clear hv
      go_wp2_with fail
      go_roundw
      case rel=>exact ⟨i+1,A',c',by omega,by go_num,by rw [HN1.out,HNO.out],by rw [HN1.out];exact HOW2.out.drew,hbl2.drew⟩
      case measure=>simp [intOf];omega
    · have e1:(z1 != z2)=true:=by simpa using hv
      obtain ⟨W1,hW1⟩:∃ W1,W1=w2.drew:=⟨_,rfl⟩;have hbW1:Below w1.heap.size w1 W1:=by rw [hW1];exact hbl2.drew
      have hown2:Own W1 w1.heap.size 3 1 A' no c' (Qag (Qhp (Qcg l) (N.ar.take i))):=by
       rw [hW1];have:=HOW2.out;rw [←HNO.out] at this;exact this.drew
      rw [←hW1];obtain ⟨W2,hW2⟩:∃ W2,W2=W1.alloc (.cells #[.int .i64 i] 3):=⟨_,rfl⟩;have hown3:Own W2 w1.heap.size 3 1 A' no c' (Qag (Qhp (Qcg l) (N.ar.take i))):=by rw [hW2];exact hown2.alloc _
      have hrd:Rds W2 1 (some ⟨W1.heap.size,0,none⟩) 1 (Qag [(i:Int)]):=by rw [hW2];exact (Blk.new W1 3 #[.int .i64 i]).rds rfl
      have hba:Below w1.heap.size w1 W2:=by rw [hW2];exact Below.alloc hbW1 hbW1.size _
      have hsz:w1.heap.size≤W2.heap.size:=hba.size;have HW2:=Zh hW2;have HE:=Zh hv;clear hW2 hown2 hv hW1 hbW1
      go_wp2_with (at_builtin;rw [←HW2.out];with_reducible refine Qap rfl (.tmp 50) (.tmp 52) 67 rfl 3 _ 1 8 Qbb underlying67 rfl (by omega) rfl rfl hown3 hrd (Qak _) (by omega) (by omega) hsz ?_)
      intro A3 c3 w8 ho8 hg8 _;have hb8:Below w1.heap.size w1 w8:=Bel.grownOwn hba hg8 hown3 hsz;have HN0:=Zh (show Qhp (Qcg l) (N.ar.take (i+1))=Qhp (Qcg l) (N.ar.take i) ++[(i:Int)] by rw [Qjz HY.out,HCR.out,e1,if_pos rfl])
      have HO8:=Zh (show Own w8 w1.heap.size 3 1 A3 (no+1) c3 (Qag (Qhp (Qcg l) (N.ar.take (i+1)))) by rw [HN0.out,Qbr];exact ho8)
      have HN1:=Zh (show (Qhp (Qcg l) (N.ar.take (i+1))).length=no+1 by rw [HN0.out,List.length_append,←HNO.out];rfl)
      clear hown3 hrd hba hsz ho8 hg8
      go_wp2_with fail
      go_roundw
      case rel=>exact ⟨i+1,A3,c3,by omega,by go_num,by rw [HN1.out],by rw [HN1.out];exact HO8.out,hb8⟩
      case measure=>simp [intOf];omega
def Qfl (x y:Int):Int:=if x+y > 1152921504606846976 then 1152921504606846976 else x+y
theorem Qhx (x:Int)(w:World)(h0:0≤x)(h1:x≤1152921504606846976):Calls prog 140 #[.int .i64 x] w fun e w'=>e=.returned (.int .i64 x)∧w=w':=by
 have i1:¬(x<0):=by omega
 have i2:¬(x > 1152921504606846976):=by omega
 go_enter func140,ntmps140
 go_wp2_with fail
 go_ret
 exact ⟨rfl,rfl⟩
theorem Qqp (x:Int)(w:World)(h1:x > 1152921504606846976):Calls prog 140 #[.int .i64 x] w fun e w'=>e=.returned (.int .i64 1152921504606846976)∧w=w':=by
 have i1:¬(x<0):=by omega
 go_enter func140,ntmps140
 go_wp2_with fail
 go_ret
 exact ⟨rfl,rfl⟩
theorem Qiz (x y:Int)(w:World)(hx:0≤x∧x≤1152921504606846976)(hy:0≤y∧y≤1152921504606846976):Calls prog 79 #[.int .i64 x,.int .i64 y] w fun e w'=>e=.returned (.int .i64 (Qfl x y))∧w=w':=by
 have HX:=Zh (Qhx x w hx.1 hx.2);have HY:=Zh (Qhx y w hy.1 hy.2)
 have HZ:=Zh (show Calls prog 140 #[.int .i64 (x+y)] w fun e w'=>e=.returned (.int .i64 (Qfl x y))∧w=w' by
  unfold Qfl
  by_cases h:x+y > 1152921504606846976
  · rw [if_pos h];exact Qqp _ w h
  · rw [if_neg h];exact Qhx _ w (by omega) (by omega))
 have e1:IntKind.i64.wrap (x+y)=x+y:=IntWalk.i64_in _ (by omega);clear hx hy
 go_enter func79,ntmps79
 go_wp2_with fail
 with_reducible refine HX.out.mono ?_
 rintro e w' ⟨rfl,rfl⟩
 go_wp2_with fail
 with_reducible refine HY.out.mono ?_
 rintro e w' ⟨rfl,rfl⟩
 go_wp2_with fail
 with_reducible refine HZ.out.mono ?_
 rintro e w' ⟨rfl,rfl⟩
 go_wp2_with fail
 go_ret
 exact ⟨rfl,rfl⟩
theorem addR_bd {x y:Int}(hx:0≤x)(hy:0≤y):0≤Qfl x y∧Qfl x y≤1152921504606846976∧Qfl x y≤x+y∧(Qfl x y<1152921504606846976→Qfl x y=x+y):=by
 unfold Qfl
 split <;> omega
section
variable {N:Qaq} {mk:List Bool} {s t:Nat} {d:List Int} {best:Int}
end
section
variable {N:Qaq} {ls:List (List Int)} {s t:Nat} {d:List Int}
theorem StW.lt {a b:Nat}{e:Int}(h:StW N a b e):b<N.ar.length:=by
 obtain ⟨y,hy,_⟩:=h;exact (Zs hy).1
theorem StW.bd (hok:Qaw N){a b:Nat}{e:Int}(h:StW N a b e):0≤e∧e≤4294967296:=by
 obtain ⟨y,hy,h1,h2,rfl⟩:=h;have h3:=(Qef hok a b).resolve_left h1;have h4:=(Qdz (hok.arcs y (Zm hy)).w).resolve_left h2;omega
theorem rchW_bd (hok:Qaw N){p:Nat}{c:Int} (h:Rch (StW N) s p c):∃ e,Rch (StW N) s p e∧e≤MB:=by
 obtain ⟨e,h1,h2⟩:=Rch.bound (n:=N.ar.length) (D:=4294967296) (by omega) (fun p q d h=>⟨h.lt,(h.bd hok).2⟩) h;refine ⟨e,h1,?_⟩;have:=hok.la;unfold MB;omega
end
/-! A search that takes the least first and stops where its end is taken. -/
theorem Dij.hit {St:Qbu}{s t:Nat}{dn hp:Nat→Option Int}(h:Dij St s dn hp)(h0:∀ p q d,St p q d→0≤d){c:Int}(hp1:hp t=some c)(hm:∀ q e,hp q=some e→c≤e):Lst (Rch St s t) c:=.inl ⟨h.hr t c hp1,h.least h0 hp1 hm⟩
theorem Dij.miss {St:Qbu}{s t:Nat}{dn hp:Nat→Option Int}(h:Dij St s dn hp)(h0:∀ p q d,St p q d→0≤d)(he:∀ q,hp q=none)(ht:dn t=none):Lst (Rch St s t) 1152921504606846976:=.inr ⟨rfl,fun c hc=>by
 obtain ⟨e,h1,_⟩:=h.all h0 he hc;rw [ht] at h1
 cases h1⟩
section
variable {N:Qaq} {ls:List (List Int)} {av:List Int} {s:Nat}
theorem Qob (hok:Qaw N)(hP:Qay N.vs.length ls)(hav:toV N s∈av){p:Nat}{c:Int} (h:Rch (HSt N ls av) s p c):Qxd N ls av p:=by
 cases h with
 | start=>exact Qlk hav
 | step _ h2 =>
  rcases h2 with ⟨h0,h3⟩|⟨j,l,y,z,v,hj,hl,hy,hz,_,h5,h6,_⟩
  · obtain ⟨x,y,hx,hy,e,_⟩:=h3.ends
    exact Qnr hx hy e h0
  · exact Qnv hok hP hy hz hj hl h5 h6
theorem rchH_bd (hok:Qaw N)(hP:Qay N.vs.length ls) (hE:∀ (j:Nat) (l:List Int) (a b:Nat) (y z:Tri),ls[j]?=some l→N.ar[a]?=some y→N.ar[b]?=some z→Qab l y.1≠Qab l y.2.1→Qab l z.1=Qab l y.2.1→Qab l z.2.1≠Qab l y.2.1→∃ v,Qgf N (Qeb l (Qab l y.2.1)) a b v)
 (hs:∃ x,N.ar[s]?=some x) (hav:toV N s∈av) {p:Nat} {c:Int} (h:Rch (HSt N ls av) s p c):∃ e,Rch (HSt N ls av) s p e∧e≤MB:=by
 obtain ⟨e,h1,h2⟩:=rchW_bd hok (Qxu h);obtain ⟨a,c1,c2,g1,g2,g3,g4⟩:=Qow hok hP hE h1 hs hav
 rcases g4 with ⟨_,rfl,rfl⟩|⟨j,l,y,hj,hl,hy,hr⟩
 · exact ⟨c1,g1,by omega⟩
 · cases hr with
   | start=>exact ⟨c1,g1,by omega⟩
   | step _ h4 =>
    exfalso
    have hlen:=(hP.lvl l (Zm hl)).len;obtain ⟨_,w,_,hw,_,_,_,h5,h6,_⟩:=(Qcy hok hlen).1 h4;obtain ⟨l',hl',q1⟩:=Qdf hj;rw [hl] at hl'
    cases hl'
    rw [(Qbo hy).1] at q1;have hm:=Qhe (ls:=ls) (v:=toV N p) (av:=av) (j:=j) ⟨l,hl,fun v hv=>by rw [(Qbo hw).1,h6];exact q1 v hv⟩;obtain ⟨k,hk⟩:∃ k,Qfi ls (toV N p) av=k+1:=⟨Qfi ls (toV N p) av-1,by omega⟩;obtain ⟨lk,hlk,_⟩:=Qdf hk;obtain ⟨u,v,e1,e2,hu,hv⟩:=Qfj hok hw;have hg:=Qob hok hP hav h k lk w hk hlk hw;rw [e1,e2] at hg;rw [e1] at h5;rw [e2] at h6;exact hg (Qmb hP hl hu hv (h5.trans h6.symm) (k-j) lk (by rw [show j+(k-j)=k by omega];exact hlk))
theorem HSt.bd (hok:Qaw N){a b:Nat}{d:Int}(h:HSt N ls av a b d):0≤d∧d≤70379481595904:=by
 rcases h with ⟨_,h⟩|⟨j,l,y,z,v,_,_,_,hz,_,_,_,h7,h8,h9,rfl⟩
 · have:=h.bd hok;omega
 · have h1:=(h8.bd hok).resolve_left h9
   have h2:=(Qdz (hok.arcs z (Zm hz)).w).resolve_left h7;omega
theorem Qdh.ent {cl:List Int}(hok:Qaw N)(hP:Qay N.vs.length ls)(h:Qdh N ls cl){j:Nat}{l:List Int}{a b:Nat}{y z:Tri} (hl:ls[j]?=some l) (hy:N.ar[a]?=some y) (hz:N.ar[b]?=some z) (h1:Qab l y.1≠Qab l y.2.1) (h2:Qab l z.1=Qab l y.2.1) (h3:Qab l z.2.1≠Qab l y.2.1) :
 ∃ (c:Nat) (x:Qan) (i k:Nat) (v:Int),Qab l y.2.1=(c:Int)∧(Qaf N.ar l)[c]?=some x∧x.1[i]?=some (a:Int)∧x.2[k]?=some (b:Int)∧Qez N ls (Qgb (Qae N.ar ls) (Qaf N.ar l) j c x i k) j l c x i k a b∧cl[Qgb (Qae N.ar ls) (Qaf N.ar l) j c x i k]?=some v∧Qgf N (Qeb l (Qab l y.2.1)) a b v:=by
 obtain ⟨_,u,_,e2,_,hu⟩:=Qfj hok hy;have hlv:=hP.lvl l (Zm hl);obtain ⟨c,hc,hcm,_⟩:=Qdj hlv (v:=u) hu;rw [←e2] at hc;have hcl:c<(Qaf N.ar l).length:=by rw [Qat];exact hcm
 obtain ⟨x,hx⟩:∃ x,(Qaf N.ar l)[c]?=some x:=⟨_,Zg hcl⟩;obtain ⟨i,hi⟩:=List.getElem?_of_mem ((Qdb hx).2 ⟨y,hy,by rw [←hc];exact h1,hc⟩);obtain ⟨k,hk⟩:=List.getElem?_of_mem ((Qbw hx).2 ⟨z,hz,by rw [h2];exact hc,by rw [←hc];exact h3⟩);have he:Qez N ls (Qgb (Qae N.ar ls) (Qaf N.ar l) j c x i k) j l c x i k a b:=⟨hl,hx,hi,hk,rfl⟩;obtain ⟨v,hv,hv2⟩:=h.at_ he;exact ⟨c,x,i,k,v,hc,hx,hi,hk,he,hv,by rw [hc];exact hv2⟩
end
structure NxtP (N:Qaq) (ls:List (List Int)) (av:List Int) (a:Nat) (os cs:List Int):Prop where
 len:cs.length=os.length
 to_:∀ (k:Nat) (o v:Int),os[k]?=some o→cs[k]?=some v→∃ (b:Nat) (y:Tri),o=(b:Int)∧N.ar[b]?=some y∧0≤v∧v≤1152921504606846976∧(v≠1152921504606846976→y.2.2≠1152921504606846976→HSt N ls av a b (v+y.2.2))
 all:∀ (b:Nat) (d:Int),HSt N ls av a b d→∃ (k:Nat) (v:Int) (y:Tri),os[k]?=some (b:Int)∧cs[k]?=some v∧N.ar[b]?=some y∧v≠1152921504606846976∧y.2.2≠1152921504606846976∧d=v+y.2.2
section
variable {N:Qaq} {ls:List (List Int)} {av:List Int} {s a:Nat}
theorem Qur (hok:Qaw N){x:Tri} (hx:N.ar[a]?=some x) (h0:Qfi ls (toV N a) av=0):NxtP N ls av a (idx (·.1) N.ar x.2.1) ((idx (·.1) N.ar x.2.1).map (fun b=>Qba N a b.toNat)):=by
 refine ⟨by simp,fun k o v ho hv=>?_,fun b d hd=>?_⟩
 · obtain ⟨b,y,rfl,hy,hf⟩:=Qhu.1 (Zm ho)
   rw [List.getElem?_map,ho] at hv;have hv':Qba N a b=v:=by simpa using hv
   subst hv';have hb:=Qef hok a b;exact ⟨b,y,rfl,hy,by omega,by omega,fun h1 h2=>.inl ⟨h0,y,hy,h1,h2,rfl⟩⟩
 · rcases hd with ⟨_,hd⟩|⟨j,_,_,_,_,hj,_⟩
   · obtain ⟨x',y,hx',hy,e,h1,h2,h3⟩:=hd.ends
     rw [hx] at hx'
     cases hx'
     obtain ⟨k,hk⟩:=List.getElem?_of_mem (Qhu.2 ⟨b,y,rfl,hy,e.symm⟩:(b:Int)∈idx (·.1) N.ar x.2.1);exact ⟨k,Qba N a b,y,hk,by rw [List.getElem?_map,hk];simp,hy,h1,h2,h3⟩
   · omega
theorem Qvk (hok:Qaw N){cl:List Int}(hA:Qdh N ls cl){j i c:Nat}{l:List Int}{x:Qan}{y:Tri} (hj:Qfi ls (toV N a) av=j+1) (hl:ls[j]?=some l) (hy:N.ar[a]?=some y) (hg:Qab l y.1≠Qab l y.2.1)
 (hc:Qab l y.2.1=(c:Int)) (hx:(Qaf N.ar l)[c]?=some x) (hi:x.1[i]?=some (a:Int)):NxtP N ls av a x.2 ((cl.drop (Qgb (Qae N.ar ls) (Qaf N.ar l) j c x i 0)).take x.2.length):=by
 have hat:∀ (k:Nat) (o:Int),x.2[k]?=some o→∃ (b:Nat) (z:Tri) (v:Int),o=(b:Int)∧N.ar[b]?=some z∧Qab l z.1=(c:Int)∧Qab l z.2.1≠(c:Int)∧((cl.drop (Qgb (Qae N.ar ls) (Qaf N.ar l) j c x i 0)).take x.2.length)[k]?=some v∧Qgf N (Qeb l c) a b v:=by
  intro k o ho;have hk:=(Zs ho).1;have hm:=Zm ho;obtain ⟨b,rfl⟩:=Qdi hx ho;obtain ⟨z,hz,h1,h2⟩:=(Qbw hx).1 hm;obtain ⟨v,hv,hv2⟩:=hA.at_ (show Qez N ls (Qgb (Qae N.ar ls) (Qaf N.ar l) j c x i k) j l c x i k a b from ⟨hl,hx,hi,ho,rfl⟩)
  refine ⟨b,z,v,rfl,hz,h1,h2,?_,hv2⟩;rw [List.getElem?_take_of_lt hk,List.getElem?_drop];rw [←hv]
  congr 1
  unfold Qgb;omega
 have hlen:((cl.drop (Qgb (Qae N.ar ls) (Qaf N.ar l) j c x i 0)).take x.2.length).length=x.2.length:=by
  rw [List.length_take];refine Nat.min_eq_left ?_
  rcases Nat.eq_zero_or_pos x.2.length with h0|h0
  · omega
  · obtain ⟨o,ho⟩:∃ o,x.2[x.2.length-1]?=some o:=⟨_,Zg (by omega)⟩
    obtain ⟨_,_,v,_,_,_,_,hv,_⟩:=hat _ _ ho;rw [List.getElem?_take_of_lt (by omega)] at hv;have:=(Zs hv).1;omega
 refine ⟨hlen,fun k o v ho hv=>?_,fun b d hd=>?_⟩
 · obtain ⟨b,z,v',rfl,hz,h1,h2,h3,h4⟩:=hat k o ho
   rw [hv] at h3
   cases h3
   have hb:=h4.bd hok;refine ⟨b,z,rfl,hz,by omega,by omega,fun g1 g2=>.inr ⟨j,l,y,z,v,hj,hl,hy,hz,hg,by rw [h1,hc],by rw [hc];exact h2,g2,by rw [hc];exact h4,g1,rfl⟩⟩
 · rcases hd with ⟨h0,_⟩|⟨j',l',y',z,v,hj',hl',hy',hz,_,h5,h6,h7,h8,h9,rfl⟩
   · omega
   · rw [hj] at hj'
     obtain rfl:j=j':=by omega
     rw [hl] at hl'
     cases hl'
     rw [hy] at hy'
     cases hy'
     rw [hc] at h5 h6 h8;obtain ⟨k,hk⟩:=List.getElem?_of_mem ((Qbw hx).2 ⟨z,hz,h5,h6⟩);obtain ⟨b',z',v',e,hz',_,_,h3,h4⟩:=hat k _ hk;obtain rfl:b=b':=by omega
     rw [hz] at hz'
     cases hz'
     obtain rfl:=Lst.uniq h8 h4;exact ⟨k,v,z,hk,h3,hz,h9,h7,rfl⟩
inductive Via (N:Qaq) (ls:List (List Int)) (av:List Int) (s:Nat) (bf:List Int) (dn:Nat→Option Int):Nat→Int→List (Nat×Nat)→Prop
 | start:Via N ls av s bf dn s 0 []
 | step {p q:Nat} {c d:Int} {hs:List (Nat×Nat)}:Via N ls av s bf dn p c hs→dn p=some c→q≠s→bf[q]?=some (p:Int)→HSt N ls av p q d→Via N ls av s bf dn q (c+d) (hs ++[(p,q)])
inductive HopP (N:Qaq) (ls:List (List Int)) (av:List Int) (s:Nat):Nat→Int→List (Nat×Nat)→Prop
 | start:HopP N ls av s s 0 []
 | step {p q:Nat} {c d:Int} {hs:List (Nat×Nat)}:HopP N ls av s p c hs→HSt N ls av p q d→HopP N ls av s q (c+d) (hs ++[(p,q)])
variable {bf:List Int} {dn dn':Nat→Option Int} {q:Nat} {c:Int} {hs:List (Nat×Nat)}
theorem Via.hopP (h:Via N ls av s bf dn q c hs):HopP N ls av s q c hs:=by
 induction h with
 | start=>exact .start
 | step _ _ _ _ h2 ih=>exact ih.step h2
theorem Via.set {r:Nat}{v:Int}(h:Via N ls av s bf dn q c hs)(hq:q≠r)(hr:dn r=none):Via N ls av s (bf.set r v) dn q c hs:=by
 induction h with
 | start=>exact .start
 | @step p q c d hs h1 h2 h3 h4 h5 ih =>
  have hp:p≠r:=fun e=>by subst e;rw [hr] at h2;cases h2
  exact .step (ih hp) h2 h3 (by rw [List.getElem?_set_ne (fun e=>hq e.symm)];exact h4) h5
theorem Via.more (h:Via N ls av s bf dn q c hs)(hd:∀ r e,dn r=some e→dn' r=some e):Via N ls av s bf dn' q c hs:=by
 induction h with
 | start=>exact .start
 | step _ h2 h3 h4 h5 ih=>exact .step ih (hd _ _ h2) h3 h4 h5
theorem Via.uniq {c':Int} {hs':List (Nat×Nat)} (h:Via N ls av s bf dn q c hs) (g:Via N ls av s bf dn q c' hs'):hs=hs':=by
 induction h generalizing c' hs' with
 | start =>
  cases g with
  | start=>rfl
  | step _ _ h _ _=>exact absurd rfl h
 | step h1 h2 h3 h4 h5 ih =>
  cases g with
  | start=>exact absurd rfl h3
  | step g1 g2 g3 g4 g5 =>
   rw [h4] at g4;have e:=Option.some.inj g4;obtain rfl:=Int.ofNat.inj e;rw [ih g1]
noncomputable def Qoe (N:Qaq) (ls:List (List Int)) (av:List Int) (s:Nat) (bf:List Int) (dn:Nat→Option Int) (q:Nat):Nat:=by
 classical exact if h:∃ c hs,Via N ls av s bf dn q c hs then (Classical.choose (Classical.choose_spec h)).length else 0
theorem Qoj (h:Via N ls av s bf dn q c hs):Qoe N ls av s bf dn q=hs.length:=by
 unfold Qoe;have he:∃ c hs,Via N ls av s bf dn q c hs:=⟨c,hs,h⟩;rw [dif_pos he];exact congrArg List.length ((Classical.choose_spec (Classical.choose_spec he)).uniq h)
structure Quy (N:Qaq) (ls:List (List Int)) (av:List Int) (s:Nat) (bf:List Int) (dn hp:Nat→Option Int) (k:Nat):Prop where
 done:∀ q c,dn q=some c→∃ hs,Via N ls av s bf dn q c hs∧hs.length+1≤k
 wait:∀ q c,hp q=some c→∃ hs,Via N ls av s bf dn q c hs∧hs.length≤k
 st:dn s≠none∨(∀ q,dn q=none)∧∀ q,q≠s→hp q=none
theorem Quy.init {hp:Nat→Option Int}(h:∀ q,hp q=if q=s then some 0 else none):Quy N ls av s bf (fun _=>none) hp 0:=by
 refine ⟨fun q c e=>(by cases e),fun q c e=>?_,.inr ⟨fun _=>rfl,fun q hq=>by rw [h q,if_neg hq]⟩⟩
 rw [h q] at e
 split at e
 · rename_i h1
   subst h1
   cases e
   exact ⟨[],.start,Zn _⟩
 · cases e
theorem Quy.take {hp:Nat→Option Int}{p k:Nat}(h:Quy N ls av s bf dn hp k)(hp1:hp p=some c)(hd:dn p=none):Quy N ls av s bf (fun q=>if q=p then some c else dn q) (fun q=>if q=p then none else hp q) (k+1):=by
 have hm:∀ r e,dn r=some e→(fun q=>if q=p then some c else dn q) r=some e:=fun r e hr=>by
  have:r≠p:=fun e'=>by subst e';rw [hd] at hr;cases hr
  simp [this,hr]
 refine ⟨fun q e hq=>?_,fun q e hq=>?_,?_⟩
 · by_cases hqp:q=p
   · subst hqp
     simp at hq;subst hq;obtain ⟨hs,h1,h2⟩:=h.wait q c hp1;exact ⟨hs,h1.more hm,by omega⟩
   · simp [hqp] at hq
     obtain ⟨hs,h1,h2⟩:=h.done q e hq;exact ⟨hs,h1.more hm,by omega⟩
 · by_cases hqp:q=p
   · simp [hqp] at hq
   · simp [hqp] at hq
     obtain ⟨hs,h1,h2⟩:=h.wait q e hq;exact ⟨hs,h1.more hm,by omega⟩
 · left
   by_cases hsp:s=p
   · simp [hsp]
   · simp only [if_neg hsp]
     rcases h.st with h1|h1
     · exact h1
     · exact absurd (h1.2 p (fun e=>hsp e.symm)) (by rw [hp1];exact fun h=>by cases h)
theorem Quy.put {hp hp':Nat→Option Int}{p b k:Nat}{d:Int}(h:Quy N ls av s bf dn hp k)(hp1:dn p=some c)(hb:dn b=none)(hbl:b<bf.length)(hst:HSt N ls av p b d)(h1:∀ r,r≠b→hp' r=hp r) (h2:hp' b=some (c+d)):Quy N ls av s (bf.set b (p:Int)) dn hp' k:=by
 have hs0:dn s≠none:=by
  rcases h.st with g|g
  · exact g
  · rw [g.1 p] at hp1;cases hp1
 refine ⟨fun q e hq=>?_,fun q e hq=>?_,?_⟩
 · obtain ⟨hs,g,g2⟩:=h.done q e hq
   exact ⟨hs,g.set (fun e'=>by subst e';rw [hb] at hq;cases hq) hb,g2⟩
 · by_cases hqb:q=b
   · subst hqb
     rw [h2] at hq
     cases hq
     obtain ⟨hs,g,g2⟩:=h.done p c hp1;have hqs:q≠s:=fun e=>hs0 (by rw [←e];exact hb)
     exact ⟨_,.step (g.set (fun e'=>by subst e';rw [hb] at hp1;cases hp1) hb) hp1 hqs (by rw [List.getElem?_set_self hbl]) hst,by rw [List.length_append,List.length_singleton];exact g2⟩
   · rw [h1 q hqb] at hq
     obtain ⟨hs,g,g2⟩:=h.wait q e hq;exact ⟨hs,g.set hqb hb,g2⟩
 · exact .inl hs0
end
set_option maxHeartbeats 1000000 in
theorem Qka (o:Nat)(ar:List Tri) (ls:List (List Int)) (w:World) (h:Qgd w o ar ls) (hL:ls.length≤1000000) (hc:∀ l∈ls,l.length≤1000000) :
 Calls prog 38 #[.pointer (some ⟨o,0,none⟩)] w fun e w'=>∃ Q' cq',e=.returned (.agg #[.slice Q' ls.length cq'])∧RdT (msk w' (fun b=>w.heap.size≤b∧b<w'.heap.size)) Q' ls.length ls∧Below w.heap.size w w':=by
 obtain ⟨Q,F,T,G,S,L,m,cq,cf,ct,cg,cs,h⟩:=h;have h0:=h.n0;have hl:ls.length=L:=h.part.1;rw [hl] at hL ⊢;have HT:=Zh h.part;have HC:=Zh hc;have hol:=Qal h0;simp only at hol;clear h hc hl
 go_enter func38,ntmps38
 go_wp2_with fail
 (refine Qad ?_;intro w1 hw1)
 have hb1:Below w.heap.size w w1:=by rw [hw1];exact Qah
 have hR1:Blk w1 w.heap.size 87 #[.slice none 0 0]:=by rw [hw1];exact Qbf
 have hz1:w.heap.size+1≤w1.heap.size:=by rw [hw1];simp
 clear hw1;with_reducible refine (Qrn Q L cq ls _ (HT.out.below hb1) hL HC.out).mono ?_
 rintro e w2 ⟨Q',cq',rfl,hrw,_,_,hb2⟩;have hR2:=hR1.below hb2 hR1.lt;have r0:=hR2.cell 0;simp only [List.getElem?_toArray,List.getElem?_cons_zero] at r0;have f0:=hR2.frozen 0;have hb2':=Zb hb1 hb2
 have HW:=Zh (show RdT (msk (w2.setCell ⟨w.heap.size,0,none⟩ (.slice Q' L cq')) (fun b=>w.heap.size≤b∧b<(w2.setCell ⟨w.heap.size,0,none⟩ (.slice Q' L cq')).heap.size)) Q' L ls from
  hrw.le ((Qbk.set w2 w.heap.size 0 (.slice Q' L cq') (by omega)).msk.trans (Qbn (fun b hb=>⟨by omega,by have:=hb.2;simpa [World.setCell] using this⟩))))
 have hbe:Below w.heap.size w (w2.setCell ⟨w.heap.size,0,none⟩ (.slice Q' L cq')):=hb2'.setCell (Zn _) _;clear hrw hb2 hR1 hb1 h0
 go_wp2_with fail
 refine bodyPost_ret (v:=.agg #[.slice Q' L cq']) (by simp [results,results38,go_sem,r0]) rfl ?_;exact ⟨_,_,rfl,HW.out,hbe⟩
def inR (n:Nat)(v:Int):Prop:=0≤v∧v<(n:Int)
noncomputable def lvI (n:Nat) (ls:List (List Int)) (v a b:Int):Int:=by classical exact if inR n v∧inR n a∧inR n b then (Qfi ls v [a,b]:Int) else 0
theorem Qrv {ls:List (List Int)} {v:Int} {av:List Int} {j:Nat} (h:Qdk ls j v av):Qii ls v av (j+1)=j+1:=by unfold Qii;rw [if_pos h]
theorem Qmq {ls:List (List Int)} {v:Int} {av:List Int} {j:Nat} (h:¬Qdk ls j v av):Qii ls v av (j+1)=Qii ls v av j:=by
 rw [show Qii ls v av (j+1)=(by classical exact if Qdk ls j v av then j+1 else Qii ls v av j) from rfl]
 rw [if_neg h]
set_option maxRecDepth 20000 in
set_option maxHeartbeats 2000000 in
theorem Qks (Q:Option Addr)(L cq n:Nat) (ls:List (List Int)) (v a b:Int) (w:World) (h:RdT w Q L ls) (hP:Qay n ls) :
 Calls prog 69 #[.slice Q L cq,.int .i64 v,.int .i64 a,.int .i64 b] w fun e w'=>e=.returned (.int .i64 (lvI n ls v a b))∧Below w.heap.size w w':=by
 have HT:=Zh h;have HP:=Zh hP;have hL6:L≤6:=by rw [←h.1];exact hP.l6
 have HL1:=Zh (show 1≤L by rw [←h.1];exact hP.l1)
 have HLL:=Zh h.1;have hix0:∀ W,(Instr.index 243 (.agg #[.int .i64 v,.int .i64 a,.int .i64 b]) (.int .i64 0)).run prog W=.ok (.int .i64 v) W:=fun W=>by rfl
 have hix1:∀ W,(Instr.index 243 (.agg #[.int .i64 v,.int .i64 a,.int .i64 b]) (.int .i64 1)).run prog W=.ok (.int .i64 a) W:=fun W=>by rfl
 have hix2:∀ W,(Instr.index 243 (.agg #[.int .i64 v,.int .i64 a,.int .i64 b]) (.int .i64 2)).run prog W=.ok (.int .i64 b) W:=fun W=>by rfl
 clear h hP
 go_enter func69,ntmps69
 go_wp2_with fail
 go_loopw [9] (fun q W=>∃ j:Nat,j≤L∧q=.int .i64 j∧Below w.heap.size w W∧Qfi ls v [a,b]=Qii ls v [a,b] j∧(j<L→inR n v∧inR n a∧inR n b)) (fun q _=>(intOf q).toNat)
 case atStart=>exact ⟨L,Zn _,rfl,Zr _ _,by unfold Qfi;rw [HLL.out],fun h=>absurd h (Nat.lt_irrefl _)⟩
 case round =>
  obtain ⟨J,hj,rfl,hb,hlv,hin⟩:=hrel;have HB:=Zh hb;have HLV:=Zh hlv;have HIN:=Zh hin;clear hlv hin
  by_cases h0:J=0
  · subst h0
    have e0:¬((1:Int)≤((0:Nat):Int)):=by omega
    clear hb
    have HZ:=Zh (show lvI n ls v a b=0 by
     unfold lvI;rw [if_pos (HIN.out (by have:=HL1.out;omega)),HLV.out]
     rfl)
    go_wp2_with fail
    go_ret
    rw [HZ.out];exact ⟨rfl,HB.out⟩
  · obtain ⟨j,hJ⟩:∃ j,J=j+1:=⟨J-1,by omega⟩
    have e0:(1:Int)≤(J:Int):=by omega
    have HJ:=Zh hJ;obtain ⟨qb,qo,A1,n1,c1,l,rfl,hl,k0,k1,_,_⟩:=(HT.out.below hb).at_ (i:=j) (by omega);have hlo:=HP.out.lvl l (Zm hl);obtain rfl:n=n1:=by rw [←k1.1];exact hlo.len.symm
    have e1:(J:Int)-1=(j:Int):=by omega
    have e2:(0:Int)≤(j:Int):=by omega
    have e3:(j:Int)<(L:Int):=by omega
    have wl:IntKind.i64.wrap (j:Int)=(j:Int):=IntWalk.i64_in _ (by omega);have HL:=Zh hl;have HLO:=Zh hlo;have HR:=Zh k1;clear hl hlo k1 hb hJ h0
    go_wp2_with fail
    obtain ⟨wo,hwo⟩:∃ wo,wo=wr:=⟨_,rfl⟩;subst hwo
    go_loopw [28] (fun q W=>∃ i:Nat,i≤3∧q=.int .i64 i∧W=wo∧(0<i→inR n v)∧(1<i→inR n a)∧(2<i→inR n b)) (fun q _=>3-(intOf q).toNat)
    case atStart=>exact ⟨0,by omega,rfl,rfl,fun h=>by omega,fun h=>by omega,fun h=>by omega⟩
    case round =>
     obtain ⟨i,hi,rfl,rfl,h1,h2,h3⟩:=hrel;have H1:=Zh h1;have H2:=Zh h2;have H3:=Zh h3;clear h1 h2 h3
     rcases (by omega:i=0∨i=1∨i=2∨i=3) with rfl|rfl|rfl|rfl
     · skip
       by_cases hx:inR n v
       · have hx0:0≤v:=hx.1
         have hx1:v<(n:Int):=hx.2
         have HX:=Zh hx;clear hx
         go_wp2_with fail
         go_roundw
         case rel=>first|exact ⟨0+1,by omega,by go_num,trivial,(fun _=>HX.out),(fun h=>by omega),(fun h=>by omega)⟩|exact ⟨0+1,by omega,by go_num,rfl,(fun _=>HX.out),(fun h=>by omega),(fun h=>by omega)⟩
         case measure=>simp [intOf]
       · have HZ:=Zh (show lvI n ls v a b=0 by unfold lvI;rw [if_neg (fun h=>hx h.1)])
         by_cases hx0:v<0
         · clear hx
           go_wp2_with fail
           go_ret
           rw [HZ.out];exact ⟨rfl,HB.out⟩
         · have hx1:(n:Int)≤v:=by unfold inR at hx;omega
           have hx2:0≤v:=by omega
           clear hx
           go_wp2_with fail
           go_ret
           rw [HZ.out];exact ⟨rfl,HB.out⟩
     · skip
       by_cases hx:inR n a
       · have hx0:0≤a:=hx.1
         have hx1:a<(n:Int):=hx.2
         have HX:=Zh hx;clear hx
         go_wp2_with fail
         go_roundw
         case rel=>first|exact ⟨1+1,by omega,by go_num,trivial,(fun _=>H1.out (by omega)),(fun _=>HX.out),(fun h=>by omega)⟩|exact ⟨1+1,by omega,by go_num,rfl,(fun _=>H1.out (by omega)),(fun _=>HX.out),(fun h=>by omega)⟩
         case measure=>simp [intOf]
       · have HZ:=Zh (show lvI n ls v a b=0 by unfold lvI;rw [if_neg (fun h=>hx h.2.1)])
         by_cases hx0:a<0
         · clear hx
           go_wp2_with fail
           go_ret
           rw [HZ.out];exact ⟨rfl,HB.out⟩
         · have hx1:(n:Int)≤a:=by unfold inR at hx;omega
           have hx2:0≤a:=by omega
           clear hx
           go_wp2_with fail
           go_ret
           rw [HZ.out];exact ⟨rfl,HB.out⟩
     · skip
       by_cases hx:inR n b
       · have hx0:0≤b:=hx.1
         have hx1:b<(n:Int):=hx.2
         have HX:=Zh hx;clear hx
         go_wp2_with fail
         go_roundw
         case rel=>first|exact ⟨2+1,by omega,by go_num,trivial,(fun _=>H1.out (by omega)),(fun _=>H2.out (by omega)),(fun _=>HX.out)⟩|exact ⟨2+1,by omega,by go_num,rfl,(fun _=>H1.out (by omega)),(fun _=>H2.out (by omega)),(fun _=>HX.out)⟩
         case measure=>simp [intOf]
       · have HZ:=Zh (show lvI n ls v a b=0 by unfold lvI;rw [if_neg (fun h=>hx h.2.2)])
         by_cases hx0:b<0
         · clear hx
           go_wp2_with fail
           go_ret
           rw [HZ.out];exact ⟨rfl,HB.out⟩
         · have hx1:(n:Int)≤b:=by unfold inR at hx;omega
           have hx2:0≤b:=by omega
           clear hx
           go_wp2_with fail
           go_ret
           rw [HZ.out];exact ⟨rfl,HB.out⟩
     · have hv:=H1.out (by omega)
       have ha:=H2.out (by omega);have hb:=H3.out (by omega);have HIR:=Zh (And.intro hv (And.intro ha hb));unfold inR at hv ha hb;obtain ⟨vn,rfl⟩:∃ vn:Nat,v=(vn:Int):=⟨v.toNat,by omega⟩;obtain ⟨an,rfl⟩:∃ vn:Nat,a=(vn:Int):=⟨a.toNat,by omega⟩;obtain ⟨bn,rfl⟩:∃ vn:Nat,b=(vn:Int):=⟨b.toNat,by omega⟩;obtain ⟨lb,lo,zv,rfl,hzv,cv⟩:=HR.out.at_ (i:=vn) (by omega);obtain ⟨_,_,za,ea,hza,ca⟩:=HR.out.at_ (i:=an) (by omega)
       cases ea
       obtain ⟨_,_,zb,eb,hzb,cb⟩:=HR.out.at_ (i:=bn) (by omega)
       cases eb
       have p1:(0:Int)≤(vn:Int):=by omega
       have p2:(0:Int)≤(an:Int):=by omega
       have p3:(0:Int)≤(bn:Int):=by omega
       have p4:(vn:Int)<(n:Int):=by omega
       have p5:(an:Int)<(n:Int):=by omega
       have p6:(bn:Int)<(n:Int):=by omega
       have HAP:=Zh (show Qdk ls j (vn:Int) [(an:Int),(bn:Int)]↔zv≠za∧zv≠zb from by
        constructor
        · rintro ⟨l',hl',g⟩
          rw [HL.out] at hl'
          cases hl'
          have g1:=g _ (List.mem_cons_self ..);have g2:=g _ (List.mem_cons_of_mem _ (List.mem_cons_self ..));rw [Qar hzv,Qar hza] at g1;rw [Qar hzv,Qar hzb] at g2;exact ⟨g1,g2⟩
        · rintro ⟨g1,g2⟩
          refine ⟨l,HL.out,fun x hx=>?_⟩;rw [List.mem_cons,List.mem_cons] at hx
          rcases hx with rfl|rfl|hx
          · rw [Qar hzv,Qar hza];exact g1
          · rw [Qar hzv,Qar hzb];exact g2
          · cases hx)
       clear hv ha hb hzv hza hzb
       go_wp2_with fail
       refine wp_region_held_drew (S:=fun V=>V=wr.drew) (by kernel_rfl) rfl (fun _=>?_)
       by_cases h1:zv=za
       · have e4:(zv != za)=false:=by simp [h1]
         have HNA:=Zh (show ¬Qdk ls j (vn:Int) [(an:Int),(bn:Int)] from fun h=>(HAP.out.1 h).1 h1)
         clear h1;refine tz 0 40 ?_;refine tz 1 41 ?_;refine tz 2 42 ?_;refine tz 3 43 ?_;refine tz 4 44 ?_;refine tz 5 45 ?_;refine tz 6 46 ?_;refine tz 7 47 ?_;refine tz 8 48 ?_;refine tz 9 49 ?_;refine tw 10 50 ?_;refine tw 11 51 ?_;refine tw 12 52 ?_;refine tw 13 53 ?_;refine tw 14 54 ?_;refine tw 15 55 ?_;refine tw 16 56 ?_;refine tw 17 57 ?_;refine tw 18 58 ?_;refine tz 19 59 ?_;refine Zd ?_;have HLN:=Zh (Qmq HNA.out);have HB2:=Zh (HB.out.trans ((Zr _ _).drew.mono HB.out.size))
         go_wp2_with fail
         go_roundw
         case rel=>exact ⟨j,by omega,by go_num,HB2.out,by rw [HLV.out,HJ.out,HLN.out],fun _=>HIR.out⟩
         case measure=>(have:=HJ.out;simp [intOf];omega)
       · have e4:(zv != za)=true:=by simp [h1]
         by_cases h2:zv=zb
         · have e5:(zv != zb)=false:=by simp [h2]
           have HNA:=Zh (show ¬Qdk ls j (vn:Int) [(an:Int),(bn:Int)] from fun h=>(HAP.out.1 h).2 h2)
           clear h1 h2;refine tz 0 40 ?_;refine tz 1 41 ?_;refine tz 2 42 ?_;refine tz 3 43 ?_;refine tz 4 44 ?_;refine tz 5 45 ?_;refine tz 6 46 ?_;refine tz 7 47 ?_;refine tz 8 48 ?_;refine tz 9 49 ?_;refine tz 10 50 ?_;refine tz 11 51 ?_;refine tz 12 52 ?_;refine tz 13 53 ?_;refine tz 14 54 ?_;refine tz 15 55 ?_;refine tz 16 56 ?_;refine tz 17 57 ?_;refine tz 18 58 ?_;refine tz 19 59 ?_;refine Zd ?_;have HLN:=Zh (Qmq HNA.out);have HB2:=Zh (HB.out.trans ((Zr _ _).drew.mono HB.out.size))
           go_wp2_with fail
           go_roundw
           case rel=>exact ⟨j,by omega,by go_num,HB2.out,by rw [HLV.out,HJ.out,HLN.out],fun _=>HIR.out⟩
           case measure=>(have:=HJ.out;simp [intOf];omega)
         · have e5:(zv != zb)=true:=by simp [h2]
           have HYA:=Zh (Qrv (HAP.out.2 ⟨h1,h2⟩));clear h1 h2;refine tz 0 40 ?_;refine tz 1 41 ?_;refine tz 2 42 ?_;refine tz 3 43 ?_;refine tz 4 44 ?_;refine tz 5 45 ?_;refine tz 6 46 ?_;refine tz 7 47 ?_;refine tz 8 48 ?_;refine tz 9 49 ?_;refine tz 10 50 ?_;refine tz 11 51 ?_;refine tz 12 52 ?_;refine tz 13 53 ?_;refine tz 14 54 ?_;refine tz 15 55 ?_;refine tz 16 56 ?_;refine tz 17 57 ?_;refine tz 18 58 ?_;refine tz 19 59 ?_;refine Zd ?_;have HB2:=Zh (HB.out.trans ((Zr _ _).drew.mono HB.out.size));have HZ:=Zh (show lvI n ls (vn:Int) (an:Int) (bn:Int)=(J:Int) by unfold lvI;rw [if_pos HIR.out,HLV.out,HJ.out,HYA.out])
           go_wp2_with fail
           go_ret
           rw [HZ.out];exact ⟨rfl,HB2.out⟩
end Go.Proofs.YteaoiabikjnkeaaGreatDoor
