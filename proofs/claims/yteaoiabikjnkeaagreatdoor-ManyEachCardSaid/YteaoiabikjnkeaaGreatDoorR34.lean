/- Parts of the proof: TaD, AsV, Pd. -/
import Derived.Test.YteaoiabikjnkeaaGreatDoorR1
import Derived.Test.YteaoiabikjnkeaaGreatDoorR10
import Derived.Test.YteaoiabikjnkeaaGreatDoorR25
import Derived.Test.YteaoiabikjnkeaaGreatDoorR31
import Derived.Test.YteaoiabikjnkeaaGreatDoorR33
namespace Go.Proofs.YteaoiabikjnkeaaGreatDoor
open Go.RowKit Go.Proofs.Tryz
attribute [local go_sem ↓] Go.wp_at_zero Go.wp_at_succ
def RrwP (w:World)(N:Qap)(s nt:Nat)(tl:List Int)(r:Ending)(w':World):Prop:=(∃ A' c' row,r=.returned (.slice A' nt c')∧RdI w' A' nt row∧Qgm N s tl row)∧Below w.heap.size w w'
set_option maxHeartbeats 4000000 in
theorem Qww (A B C TA:Option Addr)(n m k c d e nt ct s:Nat)(N:Qap)(tl:List Int)(w:World)(h:Qcj w A B C n m k N)(hok:Qaz N)(ht:RdI w TA nt tl)(hs:s<m) (hts:∀ (i:Nat) (a:Int),tl[i]?=some a→0≤a∧a<(m:Int)) (hnt:nt≤1000000) :
 Calls prog 33 #[.agg #[.slice A n c,.slice B m d,.slice C k e],.int .i64 s,.slice TA nt ct] w (RrwP w N s nt tl):=by
 have HOF:=Zh (fun V (hV:Below w.heap.size w V)=>Qta A B C n m k c d e N V (h.below hV) hok);have HFR:=Zh (fun V NX TX cx ct (hV:Below w.heap.size w V) hnx htx=>Qtk A B C NX TX n m k c d e cx ct s N V (h.below hV) hok hnx htx hs);have HOK:=Zh hok;have HTL:=Zh ht;have HTS:=Zh hts;clear h hok ht hs hts
 go_enter func33,ntmps33
 go_wp2_with fail
 (refine Qac ?_;intro w1 hw1)
 have hb1:Below w.heap.size w w1:=by rw [hw1];exact Qah
 clear hw1;with_reducible refine (HOF.out w1 hb1).mono ?_
 rintro r w2 ⟨NX,cx,TX,cx2,rfl,hnx,htx,hb2⟩;have hb2':=Zb hb1 hb2;have HF:=Zh (HFR.out w2 NX TX cx cx2 hb2' hnx htx);have HB2:=Zh hb2';clear hb1 hb2 hb2' hnx htx HOF HFR
 go_wp2_with fail
 with_reducible refine HF.out.mono ?_
 rintro r w3 ⟨⟨D,dl,rfl,hD,hdl,hdp⟩,hb3⟩;have HD:=Zh hD;have HDL:=Zh hdl;have HDP:=Zh hdp;have HB3:=Zh (Zb HB2.out hb3);clear hD hdl hdp hb3 HB2 HF
 go_wp2_with fail
 go_loopw [8,9] (fun z q W=>∃ (i:Nat) (A9:Option Addr) (c9:Nat) (row:List Int),i≤nt∧q=.int .i64 i∧z=.slice A9 i c9∧Own W w3.heap.size 2 1 A9 i c9 (Qag row)∧Below w3.heap.size w3 W∧Qgm N s (tl.take i) row) (fun _ q _=>nt-(intOf q).toNat)
 case atStart=>exact ⟨0,none,0,[],Nat.zero_le _,rfl,rfl,Own.nil _ _ _ _,Zr _ _,Qgm.nil _ _⟩
 case round =>
  obtain ⟨i,A9,c9,row,hi,rfl,rfl,hown,hbl,hrd⟩:=hrel;have HO:=Zh hown;have HBL:=Zh hbl;have HRD:=Zh hrd;clear hown hbl hrd
  by_cases hlt:i<nt
  · obtain ⟨tb,to,a,hTA,ha,ca0⟩:=HTL.out.at_ hlt
    have hab:=HTS.out i a ha;obtain ⟨an,rfl⟩:∃ an:Nat,a=(an:Int):=⟨a.toNat,by omega⟩;obtain ⟨v,hv⟩:∃ v,dl[an]?=some v:=⟨_,Zg (by rw [HDL.out];omega)⟩;have ca:=Zc (Zb HB3.out HBL.out) (Zn _) ca0;have d0:=(HD.out.below HBL.out HD.out.lt).cellI hv;have HRX:=Zh (HRD.out.snoc (HDP.out.dist HOK.out hv) ha);obtain ⟨W2,hW2⟩:∃ W2,W2=wr.alloc (.cells #[.int .i64 v] 2):=⟨_,rfl⟩;have hb2:Below wr.heap.size wr W2:=by rw [hW2];exact Qah
    have hrd:Rds W2 1 (some ⟨wr.heap.size,0,none⟩) 1 (Qag [v]):=by rw [hW2];exact (Blk.new wr 2 #[.int .i64 v]).rds rfl
    have hown:=HO.out.below hb2;have hsz:w3.heap.size≤W2.heap.size:=Nat.le_trans HBL.out.size hb2.size;have HW2:=Zh hW2;have HB2:=Zh (Zb HBL.out hb2);have i1:(i:Int)<(nt:Int):=by omega
    have i2:(0:Int)≤(i:Int):=by omega
    have i3:(an:Int)<(m:Int):=hab.2
    have i4:(0:Int)≤(an:Int):=hab.1;subst hTA;clear hW2 hb2 ha hab ca0 hv
    go_wp2_with (at_builtin;rw [←HW2.out];with_reducible refine Qan rfl (.tmp 20) (.tmp 28) 34 rfl 2 _ 1 8 Qms underlying34 rfl (by omega) rfl rfl hown hrd (Qai _) (by omega) (by omega) hsz ?_)
    intro A3 c3 w8 ho8 hg8 _;have hb8:=Bel.grownOwn HB2.out hg8 hown hsz;have HO8:=Zh (show Own w8 w3.heap.size 2 1 A3 (i+1) c3 (Qag (row ++[v])) by rw [Qbv];exact ho8)
    have HB8:=Zh hb8;clear hown hrd hsz ho8 hg8 hb8 ca d0
    go_wp2_with fail
    go_roundw
    case rel=>exact ⟨i+1,A3,c3,_,by omega,by go_num,rfl,HO8.out,HB8.out,HRX.out⟩
    case measure=>simp [intOf];omega
  obtain rfl:nt=i:=by omega
  have i1:¬(nt:Int)<(nt:Int):=by omega
  clear hlt hi
  go_wp2_with fail
  go_ret
  refine ⟨⟨A9,c9,row,rfl,HO.out.rds.rdI,?_⟩,Zb HB3.out HBL.out⟩;have h:=HRD.out;rw [List.take_of_length_le (by rw [HTL.out.1];exact Zn _)] at h;exact h
set_option maxHeartbeats 1000000 in
theorem Qtt (A:Option Addr)(n c:Nat)(l:List Int)(w:World)(h:RdI w A n l) (hl:∀ (i:Nat) (v:Int),l[i]?=some v→0≤v∧v≤1152921504606846976) (hn:n≤1000000) :
 Calls prog 34 #[.slice A n c] w fun e w'=>e=.returned (.tuple #[.int .i64 (Qif l).1,.int .i64 (Qif l).2])∧w=w':=by
 have HLS:=Zh (Qpz A n c l w h hl hn);obtain ⟨p,hp⟩:∃ p,p=(Qbj l l.length).1:=⟨_,rfl⟩;obtain ⟨z,hz⟩:∃ z,z=(Qbj l l.length).2:=⟨_,rfl⟩;have HNR:=Zh (show Qif l=if z=1152921504606846976 then (-1,1152921504606846976) else (p,z) by unfold Qif;rw [←hz];split <;> simp [hp,hz])
 rw [←hp,←hz] at HLS;rw [HNR.out];clear h hl hp hz
 by_cases h1:z=1152921504606846976
 · rw [if_pos h1]
   subst h1
   go_enter func34,ntmps34
   go_wp2_with fail
   with_reducible refine HLS.out.mono ?_
   rintro r w' ⟨rfl,rfl⟩
   go_wp2_with fail
   refine bodyPost_ret (v:=.tuple #[.int .i64 (-1),.int .i64 1152921504606846976]) (by simp [results,results34,go_sem]) rfl ?_;exact ⟨rfl,rfl⟩
 · rw [if_neg h1]
   go_enter func34,ntmps34
   go_wp2_with fail
   with_reducible refine HLS.out.mono ?_
   rintro r w' ⟨rfl,rfl⟩
   go_wp2_with fail
   refine bodyPost_ret (v:=.tuple #[.int .i64 p,.int .i64 z]) (by simp [results,results34,go_sem]) rfl ?_;exact ⟨rfl,rfl⟩
set_option maxHeartbeats 2000000 in
theorem Qnv (A B:Option Addr)(n m c d:Nat) (l l2:List (List Int)) (w:World) (h:RdT w A n l) (h2:RdT w B m l2) (hn:n≤1000000) (hm:m≤1000000) (hr:∀ r∈l,r.length≤1000000) (hr2:∀ r∈l2,r.length≤1000000) :
 Calls prog 82 #[.slice A n c,.slice B m d] w fun e w'=>e=.returned (.bool (decide (l=l2)))∧Below w.heap.size w w':=by
 have HR:=Zh h;have HR2:=Zh h2;have HL:=Zh h.1;have HL2:=Zh h2.1;have HM:=Zh hr;have HM2:=Zh hr2;clear h h2 hr hr2
 by_cases hnm:n=m
 rotate_left
 · have e1:((n:Int) != (m:Int))=true:=by simp;omega
   have e2:((n:Int) == (m:Int))=false:=by simp;omega
   have HD:=Zh (show decide (l=l2)=false from decide_eq_false (fun e=>hnm (by rw [←HL.out,←HL2.out,e])))
   go_enter func82,ntmps82
   go_wp2_with fail
   go_ret
   exact ⟨Qay HD.out.symm,Zr _ _⟩
 subst hnm
 go_enter func82,ntmps82
 go_wp2_with fail
 go_loopw [5] (fun q W=>Below w.heap.size w W∧∃ i:Nat,i≤n∧q=.int .i64 i∧∀ j,j<i→l[j]?=l2[j]?) (fun q _=>n-(intOf q).toNat)
 case atStart=>exact ⟨Zr _ _,0,Nat.zero_le _,rfl,fun _ h=>absurd h (Nat.not_lt_zero _)⟩
 case round =>
  obtain ⟨hb,i,hi,rfl,hall⟩:=hrel;have HB:=Zh hb;have HA:=Zh hall;clear hall
  by_cases hlt:i<n
  · obtain ⟨b,o,A1,n1,c1,x,rfl,hx,hc,hxr,_⟩:=HR.out.at_ hlt
    obtain ⟨b',o',A2,n2,c2,y,rfl,hy,hc',hyr,_⟩:=HR2.out.at_ hlt;have k1:=Zc hb (Zn _) hc;have k2:=Zc hb (Zn _) hc';have HSX:=Zh (show ∀ V,Below wr.heap.size wr V→V.cell? ⟨b,o+i,none⟩=some (.slice A1 n1 c1)∧V.cell? ⟨b',o'+i,none⟩=some (.slice A2 n2 c2) from fun V hV=>⟨Zc hV (Zn _) k1,Zc hV (Zn _) k2⟩)
    have HSC:=Zh (Qez A1 A2 n1 n2 c1 c2 x y wr.drew (hxr.below (Zb hb (Zr _ _).drew)) (hyr.below (Zb hb (Zr _ _).drew)) (by rw [←hxr.1];have:=HM.out x (Zm hx);omega) (by rw [←hyr.1];have:=HM2.out y (Zm hy);omega));have HX:=Zh hx;have HY:=Zh hy;have i1:(0:Int)≤(i:Int):=by omega
    have i2:(i:Int)<(n:Int):=by omega
    clear hx hy hc hc' hb hxr hyr k1 k2
    go_wp2_with fail
    refine wp_region_held_drew (S:=fun V=>Below wr.heap.size wr V) (by kernel_rfl) (Zr _ _).drew (fun _=>?_);refine tz 0 17 ?_;refine tz 1 18 ?_;refine tz 2 19 ?_;refine tz 3 20 ?_;refine tz 4 21 ?_;refine tz 5 22 ?_;refine tz 6 23 ?_;refine tz 7 24 ?_;refine Zk 8 (fun K hK=>?_);go_simp;with_reducible refine HSC.out.mono ?_
    rintro r wx ⟨rfl,hkx⟩
    have hbx:Below wr.heap.size wr wx:=by
     obtain ⟨kx,rfl⟩:=hkx;exact Qbb (Zr _ _).drew kx
    clear hkx;have HBX:=Zh (Zb HB.out hbx);go_simp;refine hK.out _ _ hbx (fun _=>?_);clear hK K hbx
    by_cases e:x=y
    · have e0:decide (x=y)=true:=decide_eq_true e
      refine tz 9 26 ?_;refine Zd ?_;subst e;clear HSX HSC
      go_wp2_with fail
      go_roundw
      case rel =>
       refine ⟨HBX.out,i+1,by omega,by go_num,fun j hj=>?_⟩
       by_cases ej:j=i
       · subst ej
         rw [HX.out,HY.out]
       · exact HA.out j (by omega)
      case measure=>simp [intOf];omega
    · have e0:decide (x=y)=false:=decide_eq_false e
      have HN:=Zh (show decide (l=l2)=false from decide_eq_false (fun ee=>by
       have:=HX.out;rw [ee,HY.out] at this;exact e (Option.some.inj this).symm))
      refine tz 9 26 ?_;refine Zd ?_;clear e HSX HSC
      go_wp2_with fail
      go_ret
      exact ⟨Qay HN.out.symm,HBX.out⟩
  · obtain rfl:n=i:=by omega
    have HE:=Zh (show decide (l=l2)=true from decide_eq_true (List.ext_getElem? (fun j=>by
     rcases Nat.lt_or_ge j n with h|h
     · exact HA.out j h
     · rw [List.getElem?_eq_none (by rw [HL.out];exact h),List.getElem?_eq_none (by rw [HL2.out];exact h)])))
    clear hb
    go_wp2_with fail
    go_ret
    exact ⟨Qay HE.out.symm,HB.out⟩
set_option maxHeartbeats 400000 in
theorem Qsa (A:Option Addr)(n c:Nat)(l:List Int)(w:World)(h:RdI w A n l)(hn:n≤1000000)(hb:∀ x∈l,0≤x∧x≤1000000) :
 Calls prog 171 #[.slice A n c] w fun e w'=>e=.returned (.int .i64 (Qaq l))∧w=w':=by
 have HR:=Zh h;have HL:=Zh h.1;have HB:=Zh hb;clear h hb
 go_enter func171,ntmps171
 go_wp2_with fail
 go_loop [3,4] (fun m q=>∃ k:Nat,k≤n∧q=.int .i64 k∧m=.int .i64 (Qaq (l.take k))) (fun _ q=>n-(intOf q).toNat)
 case atStart=>exact ⟨0,Nat.zero_le _,rfl,rfl⟩
 case round =>
  obtain ⟨k,hk,rfl,rfl⟩:=hrel
  by_cases hlt:k<n
  · obtain ⟨b,o,x,rfl,hx,hc⟩:=HR.out.at_ hlt
    have hxb:=HB.out x (Zm hx);have HNX:=Zh (Qga hx);have i1:(0:Int)≤(k:Int):=by omega
    have i2:(k:Int)<(n:Int):=by omega
    clear hx;generalize Qaq (l.take k)=m at *;have HM:=Zh (show (if m<x+1 then x+1 else m)=max m (x+1) by split <;> omega)
    go_wp2_with fail
    go_round
    case rel=>exact ⟨k+1,by omega,by go_num,by rw [HNX.out,←HM.out]⟩
    case measure=>simp [intOf];omega
  · obtain rfl:n=k:=by omega
    have HE:=Zh (show Qaq (l.take n)=Qaq l by rw [List.take_of_length_le (by rw [HL.out];exact Zn _)])
    go_wp2
    go_ret
    exact ⟨Qbz HE.out,rfl⟩
def Qff (ls:List (List Int)) (i:Nat):Option (List Int):=if i=0 then none else ls[i-1]?
theorem Qrf (ls:List (List Int)):Qff ls 0=none:=rfl
theorem Qgs (ls:List (List Int)) (j:Nat):Qff ls (j+1)=ls[j]?:=rfl
theorem Qqr {n:Nat} {p:Option (List Int)} {l:List Int} (h:l.length≠n):Qej n p l=1:=by unfold Qej;rw [if_pos h]
theorem Qid {n:Nat} {p:Option (List Int)} {l:List Int} (h:l.length=n) (hn:¬(Qfg n l∧∀ q,p=some q→Qdq q l)):Qej n p l=10:=by
 unfold Qej;rw [if_neg (fun e=>e h),if_neg hn]
theorem Qls {n:Nat} {p:Option (List Int)} {l:List Int} (h:Qfg n l) (hn:∀ q,p=some q→Qdq q l):Qej n p l=0:=by
 unfold Qej;rw [if_neg (fun e=>e h.len),if_pos ⟨h,hn⟩]
set_option maxHeartbeats 2000000 in
set_option maxRecDepth 20000 in
theorem Qlf (Q:Option Addr)(n L cq i:Nat) (ls:List (List Int)) (l:List Int) (w:World) (h:RdT w Q L ls) (hl:ls[i]?=some l) (hn:n≤4096) (hL:L≤1000000) (hprev:∀ j p,i=j+1→ls[j]?=some p→p.length=n) :
 Calls prog 162 #[.int .i64 n,.agg #[.slice Q L cq],.int .i64 ((i:Int)+1),.slice none 0 0] w fun e w'=>e=.returned (.int .i64 (Qej n (Qff ls i) l))∧Below w.heap.size w w':=by
 have hi:i<L:=by rw [←h.1];exact (Zs hl).1
 have HT:=Zh h;obtain ⟨b,o,A,m,c,l',rfl,hl',hc,hr,q1,q2⟩:=h.at_ hi;rw [hl] at hl'
 cases hl'
 have HR:=Zh hr;have HLEN:=Zh hr.1;have HLL:=Zh hl;have HPV:=Zh hprev;have hca:=fun ob=>Zc (show Below w.heap.size w (w.alloc ob) from Qah) (Zn _) hc
 have i1:(0:Int)≤(i:Int):=by omega
 have i2:(i:Int)<(L:Int):=by omega
 have i5:(i:Int)+1-1=(i:Int):=by omega
 have hmk:=Qcv n (by omega);clear h hr hl hprev q1
 by_cases hmn:m=n
 rotate_left
 · have e1:((m:Int) != (n:Int))=true:=by simp;omega
   have e2:((m:Int) == (n:Int))=false:=by simp;omega
   have HC:=Zh (Qqr (n:=n) (p:=Qff ls i) (l:=l) (by rw [HLEN.out];exact hmn))
   go_enter func162,ntmps162
   go_wp2_with fail
   go_ret
   exact ⟨Qbz HC.out.symm,Qah⟩
 subst hmn
 go_enter func162,ntmps162
 go_wp2_with fail
 (refine Qak ?_;intro w1 hw1)
 have hb1:Below w.heap.size w w1:=by rw [hw1];exact Qah
 have hQ:Blk w1 w.heap.size 29 #[.slice (some ⟨b,o,none⟩) L cq]:=by rw [hw1];exact Qbg
 have HR1:=Zh (HR.out.below hb1);clear hw1 hca
 go_loop [10] (fun q=>∃ k:Nat,k≤m∧q=.int .i64 k∧∀ j x,j<k→l[j]?=some x→0≤x∧x<m) (fun q=>m-(intOf q).toNat)
 case atStart=>exact ⟨0,Nat.zero_le _,rfl,fun _ _ h=>absurd h (Nat.not_lt_zero _)⟩
 case round =>
  obtain ⟨k,hk,rfl,hall⟩:=hrel;have HA:=Zh hall;clear hall
  by_cases hlt:k<m
  · obtain ⟨b',o',x,rfl,hx,hcx⟩:=HR1.out.at_ hlt
    have j1:(0:Int)≤(k:Int):=by omega
    have j2:(k:Int)<(m:Int):=by omega
    have HX:=Zh hx;clear hx
    by_cases hok:0≤x∧x<m
    · have g0:=hok.1
      have g1:=hok.2;have HOK:=Zh hok;clear hok
      go_wp2_with fail
      go_round
      case rel=>exact ⟨k+1,by omega,by go_num,fun j y hj hy=>by
       by_cases e:j=k
       · subst e
         rw [HX.out] at hy
         cases hy
         exact HOK.out
       · exact HA.out j y (by omega) hy⟩
      case measure=>simp [intOf];omega
    · have HC:=Zh (Qid (n:=m) (p:=Qff ls i) (l:=l) HLEN.out (fun hh=>hok ⟨hh.1.lo x (Zm HX.out),hh.1.hi x (Zm HX.out)⟩))
      by_cases hx0:x<0
      · clear hok
        go_wp2_with fail
        go_ret
        exact ⟨Qbz HC.out.symm,hb1⟩
      · have hx1:¬x<m:=by omega
        have hx2:x ≥ m:=by omega
        clear hok
        go_wp2_with fail
        go_ret
        exact ⟨Qbz HC.out.symm,hb1⟩
  · obtain rfl:m=k:=by omega
    have HN:=Zh (show ∀ x∈l,0≤x∧x<m from fun x hx=>by
     obtain ⟨j,hj⟩:=List.getElem?_of_mem hx;exact HA.out j x (by rw [←HLEN.out];exact (Zs hj).1) hj)
    clear HA
    go_wp2_with fail
    (refine Qak ?_;intro w2 hw2)
    have hb2:Below w1.heap.size w1 w2:=by rw [hw2];exact Qah
    have hQ2:=hQ.below hb2 hQ.lt;have hB2:Blk w2 w1.heap.size 3 (Qbu (Qpt (l.take 0) m)):=by rw [hw2,List.take_zero,Qpp];exact Blk.new _ _ _
    have hbw2:=Zb hb1 hb2;have hz12:=hb1.size;clear hw2 hmk
    go_loopw [12] (fun q W=>Below w1.heap.size w1 W∧∃ k:Nat,k≤m∧q=.int .i64 k∧Blk W w1.heap.size 3 (Qbu (Qpt (l.take k) m))) (fun q _=>m-(intOf q).toNat)
    case atStart=>exact ⟨hb2,0,Nat.zero_le _,rfl,hB2⟩
    case round =>
     clear hb2 hB2 hQ2 hbw2;obtain ⟨hbl,k,hk,rfl,hB⟩:=hrel
     by_cases hlt2:k<m
     · obtain ⟨b',o',x,rfl,hx,hcx⟩:=HR1.out.at_ hlt2
       have hxx:=HN.out x (Zm hx);obtain ⟨v,rfl⟩:∃ v:Nat,x=v:=⟨x.toNat,by omega⟩;have hv:v<m:=by omega
       have hcx2:=Zc hbl (Zn _) hcx;have c1:=hB.cellI (Qeb (l:=l.take k) hv);have c1f:=hB.frozen v;have d1:=Qyd l k (v:Int);have HBN:=Zh (hB.setI (Qny hx hv));have j1:(0:Int)≤(k:Int):=by omega
       have j2:(k:Int)<(m:Int):=by omega
       have j3:(0:Int)≤(v:Int):=by omega
       have j4:(v:Int)<(m:Int):=by omega
       clear hx hcx hB hxx;generalize (l.take k).countP (fun x=>x == (v:Int))=p at *;have hbn:Below w1.heap.size w1 (wr.setCell ⟨w1.heap.size,v,none⟩ (.int .i64 ((p:Int)+1))):=hbl.setCell (Zn _) _
       go_wp2_with fail
       go_roundw
       case rel=>exact ⟨hbn,k+1,by omega,by go_num,HBN.out⟩
       case measure=>simp [intOf];omega
     · obtain rfl:m=k:=by omega
       rw [List.take_of_length_le (by rw [HLEN.out];exact Zn _)] at hB;have m0:=Qcb l;have m1:=Qby (l:=l) (n:=(m:Int)) (fun x hx=>(HN.out x hx).2) (by omega);obtain ⟨w3,hw3⟩:∃ w3,w3=wr:=⟨_,rfl⟩;subst hw3;have hbw3:=Zb hb1 hbl;have HMO:=Zh (Qsa A m c l w3 (HR.out.below hbw3) (by omega) (fun x hx=>by have:=HN.out x hx;omega));obtain ⟨M,hM⟩:∃ M:Nat,Qaq l=M:=⟨(Qaq l).toNat,by omega⟩;rw [hM] at HMO m0 m1;have HMM:=Zh hM;clear hM
       go_wp2_with fail
       go_loop [13] (fun q=>∃ k:Nat,k≤M∧q=.int .i64 k∧∀ c:Nat,c<k→(c:Int)∈l) (fun q=>M-(intOf q).toNat)
       case atStart=>exact ⟨0,Nat.zero_le _,rfl,fun _ h=>absurd h (Nat.not_lt_zero _)⟩
       case round =>
        obtain ⟨k,hk,rfl,hall⟩:=hrel;have HA:=Zh hall;clear hall
        go_wp2_with fail
        with_reducible refine HMO.out.mono ?_
        rintro e w' ⟨rfl,rfl⟩
        by_cases hlt3:k<M
        · have hkm:k<m:=by omega
          have c1:=hB.cellI (Qeb (l:=l) hkm);have j1:(0:Int)≤(k:Int):=by omega
          have j2:(k:Int)<(m:Int):=by omega
          have HCT:=Zh (show 0<l.countP (fun x=>x == (k:Int))↔(k:Int)∈l from by rw [List.countP_pos_iff];simp)
          generalize l.countP (fun x=>x == (k:Int))=p at *
          by_cases hp:p=0
          · subst hp
            have HC:=Zh (Qid (n:=m) (p:=Qff ls i) (l:=l) HLEN.out (fun hh=>by
             have:=HCT.out.2 (hh.1.all k (by rw [HMM.out];omega));omega))
            go_wp2_with fail
            go_ret
            exact ⟨Qbz HC.out.symm,hbw3⟩
          · have e1:((p:Int) == 0)=false:=by simp;exact hp
            have HP:=Zh (HCT.out.1 (by omega));clear hp
            go_wp2_with fail
            go_round
            case rel=>exact ⟨k+1,by omega,by go_num,fun c hc=>by
             by_cases e:c=k
             · subst e;exact HP.out
             · exact HA.out c (by omega)⟩
            case measure=>simp [intOf];omega
        · obtain rfl:M=k:=by omega
          have HLV:=Zh (show Qfg m l from ⟨HLEN.out,fun x hx=>(HN.out x hx).1,fun x hx=>(HN.out x hx).2,fun c hc=>HA.out c (by rw [HMM.out] at hc;omega)⟩)
          have hQ3:=hQ.below hbl hQ.lt;clear HA HN hB;have q0:=hQ3.cell 0;simp only [List.getElem?_toArray,List.getElem?_cons_zero] at q0;have HRw:=Zh (HR.out.below hbw3)
          by_cases hi0:i=0
          · have HC:=Zh (Qls (n:=m) (p:=Qff ls i) HLV.out (fun q hq=>by rw [hi0,Qrf] at hq;cases hq))
            have e1:¬((i:Int)+1 > 1):=by omega
            have e2:¬(0<i):=by omega
            have e3:¬((i:Int) > 0):=by omega
            clear hi0;have hb99:Below w3.heap.size w3 w3:=Zr _ _
            by_cases hm0:0<m
            · skip
              go_wp2_with fail
              go_loop [14] (fun q=>q=.int .i64 0) (fun _=>0)
              case atStart=>rfl
              case round =>
               subst hrel
               go_wp2_with fail
               go_loop [16] (fun q=>q=.int .i64 0) (fun _=>0)
               case atStart=>rfl
               case round =>
                subst hrel
                go_wp2_with fail
                all_goals
                 go_ret
                 exact ⟨Qbz HC.out.symm,Zb hbw3 hb99⟩
            · skip
              go_wp2_with fail
              go_loop [14] (fun q=>q=.int .i64 0) (fun _=>0)
              case atStart=>rfl
              case round =>
               subst hrel
               go_wp2_with fail
               go_loop [16] (fun q=>q=.int .i64 0) (fun _=>0)
               case atStart=>rfl
               case round =>
                subst hrel
                go_wp2_with fail
                all_goals
                 go_ret
                 exact ⟨Qbz HC.out.symm,Zb hbw3 hb99⟩
          · obtain ⟨j,rfl⟩:∃ j,i=j+1:=⟨i-1,by omega⟩
            obtain ⟨bp,op,A',m',c',p,e,hp,hcp,hrp,q1',q2'⟩:=HT.out.at_ (show j<L by omega)
            cases e
            obtain rfl:m=m':=by rw [←hrp.1];exact (HPV.out j p rfl hp).symm
            have HPP:=Zh hp;have HRp:=Zh (hrp.below hbw3);have HCP:=Zh (Zc hbw3 (Zn _) hcp);have i3:((j:Int)+1+1)-2=(j:Int):=by omega
            have i4:(0:Int)≤(j:Int):=by omega
            have i6:(j:Int)<(L:Int):=by omega
            have i7:(j:Int)+1+1 > 1:=by omega
            have HLp:=Zh hrp.1;clear hrp hp hcp q1' hi0
            go_wp2_with fail
            go_loopw [14] (fun q W=>Below w3.heap.size w3 W∧∃ k:Nat,k≤m∧q=.int .i64 k∧∀ (a v:Nat) (x y u z:Int),a<k→p[a]?=some x→p[v]?=some y→l[a]?=some u→l[v]?=some z→x≤y→u≤z) (fun q _=>m-(intOf q).toNat)
            case atStart=>exact ⟨Zr _ _,0,Nat.zero_le _,rfl,fun _ _ _ _ _ _ h=>absurd h (Nat.not_lt_zero _)⟩
            case round =>
             obtain ⟨hbr,k,hk,rfl,hall⟩:=hrel;have HA:=Zh hall;clear hall
             by_cases hlt4:k<m
             · obtain ⟨pb,po,x,rfl,hx,hcx⟩:=HRp.out.at_ hlt4
               obtain ⟨lb,lo,u,rfl,hu,hcu⟩:=HRw.out.at_ hlt4;have k1:(0:Int)≤(k:Int):=by omega
               have k2:(k:Int)<(m:Int):=by omega
               have HX:=Zh hx;have HU:=Zh hu;clear hx hu;obtain ⟨wo,hwo⟩:∃ wo,wo=wr:=⟨_,rfl⟩;subst hwo
               go_wp2_with fail
               go_loopw [15] (fun q W=>Below w3.heap.size w3 W∧∃ v:Nat,v≤m∧q=.int .i64 v∧∀ (v':Nat) (y z:Int),v'<v→p[v']?=some y→l[v']?=some z→x≤y→u≤z) (fun q _=>m-(intOf q).toNat)
               case atStart=>exact ⟨hbr,0,Nat.zero_le _,rfl,fun _ _ _ h=>absurd h (Nat.not_lt_zero _)⟩
               case round =>
                clear hbr;obtain ⟨hbr,v,hv,rfl,hall⟩:=hrel;have HV:=Zh hall;clear hall
                by_cases hlt5:v<m
                · obtain ⟨pb',po',y,e,hy,hcy⟩:=HRp.out.at_ hlt5
                  cases e
                  obtain ⟨lb',lo',z,e,hz,hcz⟩:=HRw.out.at_ hlt5
                  cases e
                  have HY:=Zh hy;have HZ:=Zh hz;have q0':=Zc hbr (Zn _) q0;have hcp':=Zc hbr (Zn _) HCP.out;have hcx':=Zc hbr (Zn _) hcx;have hcu':=Zc hbr (Zn _) hcu;have hcy':=Zc hbr (Zn _) hcy;have hcz':=Zc hbr (Zn _) hcz;have k3:(0:Int)≤(v:Int):=by omega
                  have k4:(v:Int)<(m:Int):=by omega
                  clear hy hz hcy hcz
                  by_cases hxy:x≤y
                  · by_cases huz:u > z
                    · have HC:=Zh (Qid (n:=m) (p:=Qff ls (j+1)) (l:=l) HLEN.out (fun hh=>by
                       have:=hh.2 p (by rw [Qgs];exact HPP.out) k v x y u z HX.out HY.out HU.out HZ.out hxy;omega))
                      have e1:decide (x≤y)=true:=by simpa using hxy
                      go_wp2_with fail
                      go_quiet (fail)
                      go_wp2_with fail
                      go_ret
                      exact ⟨Qbz HC.out.symm,Zb hbw3 (Qbb hbr _)⟩
                    · have e1:decide (x≤y)=true:=by simpa using hxy
                      have HO:=Zh huz
                      go_wp2_with fail
                      go_quiet (fail)
                      go_wp2_with fail
                      go_roundw
                      case rel=>exact ⟨Qbb hbr _,v+1,by omega,by go_num,fun v' y' z' hv' h1 h2 h3=>by
                       by_cases e:v'=v
                       · subst e
                         rw [HZ.out] at h2
                         cases h2
                         have:=HO.out;omega
                       · exact HV.out v' y' z' (by omega) h1 h2 h3⟩
                      case measure=>simp [intOf];omega
                  · have e1:decide (x≤y)=false:=by simpa using hxy
                    have HO:=Zh hxy
                    go_wp2_with fail
                    go_quiet (fail)
                    go_wp2_with fail
                    go_roundw
                    case rel=>exact ⟨Qbb hbr _,v+1,by omega,by go_num,fun v' y' z' hv' h1 h2 h3=>by
                     by_cases e:v'=v
                     · subst e
                       rw [HY.out] at h1
                       cases h1
                       have:=HO.out;omega
                     · exact HV.out v' y' z' (by omega) h1 h2 h3⟩
                    case measure=>simp [intOf];omega
                · obtain rfl:m=v:=by omega
                  go_wp2_with fail
                  go_roundw
                  case rel=>exact ⟨hbr,k+1,by omega,by go_num,fun a v x' y u' z ha h1 h2 h3 h4 h5=>by
                   by_cases e:a=k
                   · subst e
                     rw [HX.out] at h1;rw [HU.out] at h3
                     cases h1
                     cases h3
                     exact HV.out v y z (by rw [←HLp.out];exact (Zs h2).1) h2 h4 h5
                   · exact HA.out a v x' y u' z (by omega) h1 h2 h3 h4 h5⟩
                  case measure=>simp [intOf];omega
             · obtain rfl:m=k:=by omega
               have HC:=Zh (Qls (n:=m) (p:=Qff ls (j+1)) HLV.out (fun q hq=>by
                rw [Qgs,HPP.out] at hq
                cases hq
                intro a v x y u z h1 h2 h3 h4 h5;exact HA.out a v x y u z (by rw [←HLp.out];exact (Zs h1).1) h1 h2 h3 h4 h5))
               clear HA
               go_wp2_with fail
               have hb99:=hbr
               go_loop [16] (fun q=>q=.int .i64 0) (fun _=>0)
               case atStart=>rfl
               case round =>
                subst hrel
                go_wp2_with fail
                all_goals
                 go_ret
                 exact ⟨Qbz HC.out.symm,Zb hbw3 hb99⟩
end Go.Proofs.YteaoiabikjnkeaaGreatDoor
