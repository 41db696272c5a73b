/- Qbl of the proof: BtM, QJoin, BtF, Lst, BtL. -/
import Derived.Test.YtkaaakbejnlbgaaGreatDoorE24
set_option maxHeartbeats 8000000
set_option maxRecDepth 100000
namespace Go.Proofs.YtkaaakbejnlbgaaGreatDoor
open Go.RowKit Go.Proofs.Tryz
attribute [local go_sem ↓] Go.wp_at_zero Go.wp_at_succ
theorem RdI.restO {W:World}{A:Oz}{n c k:Nat}{l:Iz}(h:RdI W A n l)(hc:n≤c):RdI W (if c=k then A else Option.map (fun x=>x.add k) A) (n-k) (l.drop k) :=
 ⟨by rw [List.length_drop,h.1],fun i x hx=>by
  rw [List.getElem?_drop] at hx;have hl:=(Zs hx).1;have hl2:=h.1;rw [if_neg Oo];obtain ⟨b',o',rfl,hc⟩:=h.2 _ x hx;refine ⟨b',o'+k,?_,by rw [Nat.add_assoc];exact hc⟩;simp only [Option.map_some,Addr.add]
  split
  · simp [*]
  · rfl⟩
theorem move_cut {rs:Lz} {q a t b:Nat} (hn:∀ r∈rs,r≠[]) (hq:q<rs.length):Quy rs q a t b=if (Qhb rs q a t b).getD q []=[] then (Qhb rs q a t b).eraseIdx q else Qhb rs q a t b:=by rw [Qxs hn hq];have hh:(Qhb rs q a t b).getD q []=[]↔(t≠q∧Qmh (rs.getD q []) a=[]):=by{unfold Qhb;rw [Ya];by_cases e:t=q;{subst e;rw [Yg (by rw [Yq];exact hq)];simp [putR]};{rw [Yh e,Yg hq];simp [e]}};by_cases h:t≠q∧Qmh (rs.getD q []) a=[];{rw [if_pos h,if_pos (hh.2 h)]};{rw [if_neg h,if_neg (fun x=>h (hh.1 x))]}
theorem Raf {rs:Lz} {q a t b:Nat} (h:∀ r∈rs,r.length≤1000):∀ r∈Quy rs q a t b,r.length≤1000000:=fun r hr=>by
 have hg:∀ j,(rs.getD j []).length≤1000:=fun j=>by
  rw [Ya]
  cases hj:rs[j]? with
  | none=>simp
  | some x=>exact h x (Zm hj)
 have hl:∀ j,(Qmh (rs.getD j []) a).length≤1000:=fun j=>by{have:=hg j;unfold Qmh;rw [Yp,Yw,List.length_drop];omega};have ho:(Qwg rs q a t).length≤1000:=by{unfold Qwg;split;{exact hl q};{exact hg t}};unfold Quy at hr;have h1:=(List.mem_filter.1 hr).1;unfold Qhb at h1;rcases List.mem_or_eq_of_mem_set h1 with h2|h2
 {(rcases List.mem_or_eq_of_mem_set h2 with h3|h3);{have:=h r h3;omega};{rw [h3];have:=hl q;omega}};{rw [h2];unfold putR;rw [Yp,List.length_cons,Yw,List.length_drop];omega}
theorem Rbh (w:World)(B bd bl bj bb:Nat)(dep cap lim:Int)(A T:Oz)(n c tc:Nat) (st:Pz) (ls rs:Lz) (p:Lz×Int) (a0:Addr) (m d:Nat) (hE:TrE (msk w (Ko bl bb)) bd bj dep cap lim A T n c tc st ls) (hL:Qtb st) (hs:Sq (n+1) ls) (hn:n≤1000000) (hW:TrW w bl bb ls rs p) (hR:RdT (msk w (Ko bl bb)) (some a0) m rs) (hm:m≤1000) (hsh:∀ r∈rs,r.length≤1000) (hne:∀ r∈rs,r≠[]) (hB:B≤bl∧B≤bb∧B≤w.heap.size) :
 Calls prog 148 #[.slice (some a0) m d,.func (.func 146) #[] #[.pointer (some ⟨bd,0,none⟩),.pointer (some ⟨bl,0,none⟩),.pointer (some ⟨bj,0,none⟩),.pointer (some ⟨bb,0,none⟩)]] w fun e w'=>e=.returned (.tuple #[])∧TrW w' bl bb ls rs (flR n cap lim ls st p (Qlx rs m))∧AfK B bl bb w w':=by
 have hml:=hR.1;have hbb0:∀ V,TrW V bl bb ls rs p→bl<V.heap.size∧bb<V.heap.size:=fun V h=>⟨h.l.lt,by obtain ⟨_,_,_,h1,_⟩:=h.b;exact h1.lt⟩
 have HKN:=Zh (show ∀ b,w.heap.size≤b→Ko bl bb b from fun b hb=>⟨by have:=(hbb0 w hW).1;omega,by have:=(hbb0 w hW).2;omega⟩);have HTR:=Zh (fun W (hA:AfK B bl bb w W) P (hP:TrW W bl bb ls rs P) a' m' d' cs hcs hm' hsh'=>Qzf W B bd bl bj bb dep cap lim A T n c tc st ls rs P a' m' d' cs (hE.le (Qaz.msk hA.kept)) hL hs hn hP hcs hm' hsh' ⟨hB.1,hB.2.1,Yx hB.2.2 hA.size⟩);have HR:=Zh hR;have HW:=Zh hW;have HSH:=Zh hsh;have HNE:=Zh hne;have HB:=Zh hB;have HML:=Zh hml;clear hE hs hW hR hsh hne hB hml hbb0;go_enter func148,ntmps148
 go_wp2_with fail
 go_loopw [15] (fun q W=>∃ i:Nat,i≤m∧q=.int .i64 i∧TrW W bl bb ls rs (flR n cap lim ls st p (Qlx rs i))∧AfK B bl bb w W) (fun q _=>m-(intOf q).toNat)
 case atStart=>exact ⟨0,Nat.zero_le _,rfl,HW.o,AfK.refl _ _ _ _⟩
 case round =>
  clear HW;obtain ⟨i,hi,rfl,hw,ha⟩:=hrel;have HWi:=Zh hw;have HAi:=Zh ha;clear hw ha;by_cases hlt:i<m
  rotate_left;{(obtain rfl:i=m:=Oo);(have i1:¬(i:Int)<i:=Oo);(go_wp2_with fail);go_end0;exact ⟨rfl,HWi.o,HAi.o⟩};obtain ⟨b0,o0,A1,n1,c1,l,e0,hl,hc,hr,hnc,hcm⟩:=HR.o.at_ hlt;cases e0;have hc0:=Qan _ _ _ _ (Qaz.msk HAi.o.kept _ _ hc);have HL:=Zh hl;have HRL:=Zh hr;have hn1:n1≤1000:=by have:=HSH.o l (Zm hl);have:=hr.1;omega
  have HLN:=Zh hr.1;have HGD:=Zh (show rs.getD i []=l by rw [Ya,hl];rfl);have HT4:=Zh (Qxw rs i);rw [HGD.o,HLN.o] at HT4;obtain ⟨P0,hP0⟩:=Zx (flR n cap lim ls st p (Qlx rs i));rw [←hP0] at HWi;have HP0:=Zh hP0;have i1:(i:Int)<m:=Oo
  have i2:0≤(i:Int):=Oo
  have wi:IntKind.i64.wrap ((i:Int)+1)=(i:Int)+1:=IntWalk.i64_in _ Oo;clear hl hc hr hP0;go_wp2_with fail
  go_loopw [22] (fun q W=>∃ k:Nat,k≤n1∧q=.int .i64 k∧TrW W bl bb ls rs (flR n cap lim ls st P0 (Qof rs i k))∧AfK B bl bb w W) (fun q _=>n1-(intOf q).toNat)
  case atStart=>exact ⟨0,Nat.zero_le _,rfl,HWi.o,HAi.o⟩
  case round =>
   clear HWi HAi hc0;obtain ⟨k,hk,rfl,hw,ha⟩:=hrel;have HWk:=Zh hw;have HAk:=Zh ha;clear hw ha;(by_cases hlt1:k<n1);rotate_left;{(obtain rfl:k=n1:=Oo);(have j1:¬(k:Int)<k:=Oo);have HWX:=HWk;rw [HP0.o,←Qhe,←HT4.o] at HWX;exact Kdg};(obtain ⟨P1,hP1⟩:=Zx (flR n cap lim ls st P0 (Qof rs i k));rw [←hP1] at HWk;have HP1:=Zh hP1;have HT3:=Zh (Qxv rs i k);rw [HML.o] at HT3;have HRk:=Zh (HRL.o.le (Qaz.msk HAk.o.kept));obtain ⟨b1,o1,y,rfl,hy,hcy⟩:=HRk.o.at_ hlt1;have cy:=Qan _ _ _ _ hcy;have HY:=Zh hy;have j1:(k:Int)<n1:=Oo);(have j2:0≤(k:Int):=Oo);(have j3:(k:Int)≤c1:=Oo);(have j4:(k:Int)+1≤n1:=Oo);(have j5:0≤(k:Int)+1:=Oo);(have wk:IntKind.i64.wrap ((k:Int)+1)=(k:Int)+1:=IntWalk.i64_in _ Oo;clear hP1 hy hcy;obtain ⟨w1,hw1⟩:=Zx ((wr.alloc (.cells #[.slice (some ⟨b1,o1,none⟩) k c1,.slice (if c1=k+1 then some ⟨b1,o1,none⟩ else some ⟨b1,o1+(k+1),none⟩) (n1-(k+1)) (c1-(k+1))] 64)).drew);have hb1:Bw wr w1:=by rw [hw1];exact ((Zr _ _).alloc (Zn _) _).drew);(have HB1:=Zh hb1;have hRw:RdI w1 (some ⟨b1,o1,none⟩) n1 l:=(HRk.o.le (Qan _ _)).below hb1;have hG1:Blk w1 wr.heap.size 64 #[.slice (some ⟨b1,o1,none⟩) k c1,.slice (if c1=k+1 then some ⟨b1,o1,none⟩ else some ⟨b1,o1+(k+1),none⟩) (n1-(k+1)) (c1-(k+1))]:=by rw [hw1];exact (Blk.new wr _ _).drew);have HC2:=Zh (Qnj _ _ k c1 (n1-(k+1)) (c1-(k+1)) wr.heap.size 2 (l.take k) (l.drop (k+1)) w1 hG1 (RdI.pre_ hRw Oo) (RdI.rest (k:=k+1) hRw hnc) Oo Oo hcm Oo Oo);rw [show l.take k ++l.drop (k+1)=Qmh l k from rfl] at HC2;have HW1:=Zh hw1;clear hw1 hb1 hRw hG1;(go_wp2_with fail);(refine wp_region_held_drew (S:=fun V=>Bw wr V) Kf (Zr _ _).drew (fun _=>?_);refine tzd 0 27 ?_;refine tzb 4 31 ?_;refine tz 6 33 ?_;refine Zk 7 (fun K hK=>?_);go_simp;rw [←HW1.o];refine hK.out _ _ HB1.o (fun _=>?_);clear hK K;refine Zk 8 (fun K hK=>?_);go_simp;with_reducible refine HC2.o.mono ?_);rintro e w2 ⟨LA,nl,cl,rfl,hnl9,hla,hlc,hlm,hlg,hb12⟩;have HB2:=Zh (HB1.o.trans (hb12.mono HB1.o.size))
   have HLA:=Zh (hla.msk (G:=Ko bl bb) (fun b hb=>HKN.o b (Nat.le_of_not_lt (fun h=>by
    have h1:=HAk.o.size;have h2:=HB1.o.size;exact hlg b Oo hb))))
   have HLL:=Zh hla.1;go_simp;refine hK.out _ _ HB2.o (fun _=>?_);clear hK K hla hb12 hlg HC2 HB1;refine tz 9 8 ?_;refine Zd ?_;have HAl:=Zh (HAk.o.trans (AfK.below HB2.o (Yx HB.o.2.2 HAk.o.size)));have HWl:=Zh (HWk.o.below HB2.o);have hlen:nl=n1-1:=by{have h1:=HLL.o;have h2:=HLN.o;unfold Qmh at h1;rw [Yp,Yw,List.length_drop] at h1;omega};clear HB2;generalize (if c1=k+1 then some (⟨b1,o1,none⟩:Addr) else some ⟨b1,o1+(k+1),none⟩)=A9;(go_wp2_with fail);(go_loopw [38] (fun q W=>∃ t:Nat,t≤m∧q=.int .i64 t∧TrW W bl bb ls rs (flR n cap lim ls st P1 (Qoe rs i k t))∧AfK B bl bb w2 W) (fun q _=>m-(intOf q).toNat));case atStart=>exact ⟨0,Nat.zero_le _,rfl,HWl.o,AfK.refl _ _ _ _⟩
   case round =>
    clear HWl HWk HAk HRk cy;obtain ⟨t,ht,rfl,hw,ha⟩:=hrel;have HWt:=Zh hw;have HAt:=Zh ha;clear hw ha;(by_cases hlt2:t<m);rotate_left;{(obtain rfl:t=m:=Oo);(have k1:¬(t:Int)<t:=Oo);have HWX:=HWt;rw [HP1.o,←Qhe,←HT3.o] at HWX;have HAX:=Zh (HAl.o.trans HAt.o);(go_wp2_with fail);go_roundw;(case rel=>exact ⟨k+1,Oo,by go_num,HWX.o,HAX.o⟩);case measure=>simp [intOf];omega};have hleT:=Zh (Qaz.msk (HAl.o.trans HAt.o).kept);obtain ⟨b3,o3,A3,n3,c3,l3,e0,hl3,hc3,hr3,hnc3,hcm3⟩:=HR.o.at_ hlt2;cases e0;(have hct:=Qan _ _ _ _ (hleT.out _ _ hc3);have hg3:rs.getD t []=l3:=by rw [Ya,hl3];rfl);(have k1:(t:Int)<m:=Oo);(have k2:0≤(t:Int):=Oo);obtain ⟨P2,hP2⟩:=Zx (flR n cap lim ls st P1 (Qoe rs i k t));rw [←hP2] at HWt;have HP2:=Zh hP2;have HT2:=Zh (Qxu rs i k t)
    have HRT:=Zh (show t≠i→(∀ W,AfK B bl bb w2 W→RdI (msk W (Ko bl bb)) A3 n3 (Qwg rs i k t))∧n3≤1000 from fun h=>by
     unfold Qwg;rw [if_neg h,hg3];exact ⟨fun W hA=>hr3.le (Qaz.msk (HAl.o.trans hA).kept),by have:=HSH.o l3 (Zm hl3);have:=hr3.1;omega⟩)
    have HRO:=Zh (show t=i→(∀ W,AfK B bl bb w2 W→RdI (msk W (Ko bl bb)) LA nl (Qwg rs i k t))∧nl≤1000 from fun h=>by
     unfold Qwg;rw [if_pos h,HGD.o];exact ⟨fun W hA=>HLA.o.le (Qaz.msk hA.kept),Oo⟩)
    clear hl3 hc3 hr3 hg3 hP2 hlen HLL;by_cases hti:t=i
    focus
     have e1:((t:Int) == (i:Int))=true:=by simp [hti]
     obtain ⟨hox,hn3⟩:=HRO.o hti;have HTI:=Zh hti;clear HRT HRO hnc3 hcm3 hti;have hoc:=hlc;have hom:=hlm
     go_wp2_with fail
     obtain ⟨OA,rfl⟩:∃ x,x=LA:=⟨_,rfl⟩;obtain ⟨no,rfl⟩:∃ x,x=nl:=⟨_,rfl⟩;obtain ⟨co,rfl⟩:∃ x,x=cl:=⟨_,rfl⟩
    rotate_left
    focus
     have e1:((t:Int) == (i:Int))=false:=beq_eq_false_iff_ne.2 Oo;obtain ⟨hox,hn3⟩:=HRT.o hti;have HTI:=Zh hti;clear HRT HRO hti;have hoc:=hnc3;have hom:=hcm3
     go_wp2_with fail
     obtain ⟨OA,rfl⟩:∃ x,x=A3:=⟨_,rfl⟩;obtain ⟨no,rfl⟩:∃ x,x=n3:=⟨_,rfl⟩;obtain ⟨co,rfl⟩:∃ x,x=c3:=⟨_,rfl⟩
    rotate_left
    all_goals
     have HOX:=Zh hox;clear hox
     go_loopw [11] (fun q W=>∃ b:Nat,b≤no+1∧q=.int .i64 b∧TrW W bl bb ls rs (flR n cap lim ls st P2 (Qqp rs i k t b))∧AfK B bl bb w2 W) (fun q _=>no+1-(intOf q).toNat)
     case atStart=>exact ⟨0,Nat.zero_le _,rfl,HWt.o,HAt.o⟩
     case round =>
      clear HWt HAt hleT hct;obtain ⟨b,hb,rfl,hw,ha⟩:=hrel;have HWb:=Zh hw;have HAb:=Zh ha;have HO:=Zh (HOX.o wr ha);have HON:=Zh (HOX.o wr ha).1;clear hw ha
      by_cases hlt3:b≤no
      rotate_left
      · obtain rfl:b=no+1:=by omega
        have q1:¬(no:Int)+1≤no:=Oo
        have HWX:=HWb;rw [show no+1=(Qwg rs i k t).length+1 by rw [HON.o],HP2.o,←Qhe,←HT2.o] at HWX
        go_wp2_with fail
        go_roundw
        case rel=>exact ⟨t+1,Oo,by go_num,HWX.o,HAb.o⟩
        case measure=>simp [intOf];omega
      have q1:(b:Int)≤no:=Oo
      have q2:0≤(b:Int):=Oo
      have q3:(b:Int)≤co:=Oo
      have q3':b≤co:=Oo
      have wb:IntKind.i64.wrap ((b:Int)+1)=(b:Int)+1:=IntWalk.i64_in _ Oo;have HT1:=Zh (Qxt rs i k t b);have hti:=HTI.o
      by_cases hbk:t=i∧b=k
      · first
         | exact absurd hbk.1 hti
         | (
          have e2:((b:Int) == (k:Int))=true:=by simp [hbk.2]
          rw [if_pos hbk,List.append_nil] at HT1;clear hti hbk
          go_wp2_with fail
          go_roundw
          case rel=>exact ⟨b+1,Oo,by go_num,by rw [HT1.o];exact HWb.o,HAb.o⟩
          case measure=>simp [intOf];omega)
      rw [if_neg hbk] at HT1
      try (have e2:((b:Int) == (k:Int))=false:=beq_eq_false_iff_ne.2 Oo)
      clear hti hbk;have HAw:=Zh (HAl.o.trans HAb.o);have HCM:=Zh (Qqg ⟨b0,o0,none⟩ m d rs wr (Ko bl bb) (HR.o.le (Qaz.msk HAw.o.kept)) Oo Oo)
      go_wp2_with fail
      with_reducible refine HCM.o.mono ?_
      rintro e w3 ⟨g3,N3,rfl,hg3,hm3,hN3,hN9,hb3⟩;obtain ⟨_,_,_,q4,q5,_,_,_⟩:=hm3.cellAt (i:=i) (by rw [HML.o];exact hlt);have HG3:=Zh hg3;have HB3:=Zh hb3;have HM4:=Zh (hm3.set (i:=i) (by rw [HML.o];exact hlt) ((HLA.o.le (Qaz.msk HAb.o.kept)).le (Rfx hb3 hg3)) hlc hlm);clear hg3 hm3 hb3 HCM
      go_wp2_with fail
      (refine Qai ?_;intro w4 hw4)
      rw [←hw4] at HM4;have HB4:=Zh (show Bw wr w4 by rw [hw4];exact HB3.o.setCell (by simp only;exact HG3.o) _)
      clear hw4 q4 q5;refine wp_region_held_drew (S:=fun V=>Bw wr V) Kf HB4.o.drew (fun _=>?_);refine tzd 0 69 ?_;refine tzb 4 73 ?_;refine tzb 7 76 ?_;refine tz 9 78 ?_;have HO4:=Zh ((HO.o.le (Qan _ _)).below HB4.o);have hR7:=RdI.restO (k:=b) HO4.o hoc;generalize (if co=b then OA else Option.map (fun x=>x.add b) OA)=A7 at hR7 ⊢;have HR7:=Zh hR7;obtain ⟨w5,hw5⟩:=Zx ((w4.alloc (.cells #[.int .i64 y] 3)).drew);have hb5:Bw w4 w5:=by rw [hw5];exact ((Zr _ _).alloc (Zn _) _).drew
      have hG5:Blk w5 w4.heap.size 3 (Qbr [y]):=by rw [hw5];exact (Blk.new w4 _ _).drew
      obtain ⟨w6,hw6⟩:=Zx (w5.alloc (.cells #[.slice OA b co,.slice (some ⟨w4.heap.size,0,none⟩) 1 1,.slice A7 (no-b) (co-b)] 64));have hb56:Bw w5 w6:=by rw [hw6];exact (Zr _ _).alloc (Zn _) _
      have hb6:=Zb hb5 hb56;have hG6:Blk w6 w5.heap.size 64 #[.slice OA b co,.slice (some ⟨w4.heap.size,0,none⟩) 1 1,.slice A7 (no-b) (co-b)]:=by rw [hw6];exact Blk.new w5 _ _
      have HC3:=Zh (Qwv _ _ _ b co 1 1 (no-b) (co-b) w5.heap.size 3 ((Qwg rs i k t).take b) [y] ((Qwg rs i k t).drop b) w6 hG6 (RdI.pre_ (HO4.o.below hb6) hlt3) ((hG5.rdI rfl).below hb56) (HR7.o.below hb6) q3' (Zn _) Oo hom Oo Oo Oo);rw [show (Qwg rs i k t).take b ++([y] ++(Qwg rs i k t).drop b)=putR (Qwg rs i k t) b y from rfl] at HC3
      have HB5:=Zh (Zb HB4.o hb5);have HB6:=Zh (Zb HB4.o hb6);have HB46:=Zh hb6;have HW5:=Zh hw5;have HW6:=Zh hw6;clear hR7 hw5 hb5 hG5 hw6 hb56 hb6 hG6;refine Zk 6 (fun K hK=>?_);go_simp;rw [←HW5.o];refine hK.out _ _ HB5.o (fun _=>?_);clear hK K;refine Zk 10 (fun K hK=>?_);go_simp;rw [←HW6.o];refine hK.out _ _ HB6.o (fun _=>?_);clear hK K;refine Zk 11 (fun K hK=>?_);go_simp;with_reducible refine HC3.o.mono ?_
      rintro e w7 ⟨PA,m7,c7,rfl,hm79,hpa,hpc,hpm,hpg,hb67⟩;have HB7:=Zh (HB6.o.trans (hb67.mono HB6.o.size));have hM7:=HM4.o.below (Zb HB46.o hb67);have hgl:=HM4.o.lt
      have HPA:=Zh (hpa.msk (G:=fun b=>Ko bl bb b∧b≠g3) (fun x hx=>by
       have h6:w6.heap.size≤x:=Nat.le_of_not_lt (fun h=>hpg x h hx);have h7:=HB46.o.size;have h8:=HB6.o.size;have h9:=HAw.o.size;exact ⟨HKN.o x Oo,Oo⟩))
      obtain ⟨_,_,_,q4,q5,_,_,_⟩:=hM7.cellAt (i:=t) (by rw [Yq,HML.o];exact hlt2);have HM8:=Zh (hM7.set (i:=t) (by rw [Yq,HML.o];exact hlt2) HPA.o hpc hpm);clear hpa hpg hb67 hM7 hgl HC3 HR7 HO4 HM4;go_simp;refine hK.out _ _ HB7.o (fun _=>?_);clear hK K;refine tz 12 81 ?_;refine Zk 13 (fun K hK=>?_);go_simp;have HB8:=Zh (HB7.o.setCell (p:=⟨g3,t,none⟩) (by simp only;exact HG3.o) (.slice PA m7 c7));refine hK.out _ _ HB8.o (fun _=>?_);clear hK K;refine Zd ?_
      have hme:(rs.set i (Qmh l k)).set t (putR (Qwg rs i k t) b y)=Qhb rs i k t b:=by
       unfold Qhb;rw [HGD.o,show l.getD k 0=y by rw [Ya,HY.o];rfl]
      rw [hme] at HM8;have HFL:=Zh (show (Qhb rs i k t b).length=m by rw [←hme,Yq,Yq,HML.o])
      obtain ⟨w8,hw8⟩:=Zx (w7.setCell ⟨g3,t,none⟩ (.slice PA m7 c7));rw [←hw8] at HM8 HB8 ⊢;obtain ⟨A8,n8,c8,q6,_,hr8,_,_⟩:=HM8.o.cellAt (i:=i) (by rw [HFL.o];exact hlt);have HN8:=Zh hr8.1;have HMC:=Zh (move_cut (a:=k) (t:=t) (b:=b) HNE.o (by rw [HML.o];exact hlt));have HAX:=Zh (HAb.o.trans (AfK.below (B:=B) HB8.o (Yx HB.o.2.2 HAw.o.size)));have HWX:=Zh (HWb.o.below HB8.o);have HKG:=Zh (HKN.o g3 (Yx HAw.o.size HG3.o));clear hme hw8 hr8 q4 q5 HPA HB7 HB4 HB5 HB6 HB46 HW5 HW6
      by_cases hz:n8=0
      · subst hz
        have hz2:=List.eq_nil_of_length_eq_zero HN8.o;rw [if_pos hz2] at HMC;have HDL:=Zh (Qwx g3 N3 wr.heap.size i _ w8 (Ko bl bb) HM8.o (by rw [HFL.o];exact hlt) hN9 (by rw [HFL.o];omega) HG3.o);rw [HFL.o] at HDL;clear hz2
        go_wp2_with fail
        with_reducible refine HDL.o.mono ?_
        rintro e w9 ⟨rfl,hm9,hb9⟩;have HM9:=Zh (hm9.rdT HKG.o);rw [←HMC.o] at HM9
        have hl9:(Quy rs i k t b).length=m-1:=by
         rw [HMC.o,List.length_eraseIdx,HFL.o,if_pos hlt]
        rw [hl9] at HM9;have HA9:=Zh (HAb.o.trans (AfK.below (B:=B) (HB8.o.trans hb9) (Yx HB.o.2.2 HAw.o.size)));have HTY:=Zh (HTR.o w9 (HAl.o.trans HA9.o) _ (HWb.o.below (HB8.o.trans hb9)) ⟨g3,0,none⟩ (m-1) N3 _ HM9.o Oo (Raf HSH.o));rw [←Qxa,←Qhe,←HT1.o] at HTY;clear hm9 hb9 hl9 HM9 HDL q6
        go_wp2_with fail
        with_reducible refine HTY.o.mono ?_
        rintro e w5 ⟨rfl,hw5,ha5⟩;have HW5:=Zh hw5;have HA5:=Zh (HA9.o.trans ha5);clear hw5 ha5 HTY HA9
        exact Kdh
      · rw [if_neg (fun h=>hz (by rw [←HN8.o,h];rfl))] at HMC
        have e3:((n8:Int) == 0)=false:=beq_eq_false_iff_ne.2 Oo;have HM9:=Zh (HM8.o.rdT HKG.o);rw [HFL.o,←HMC.o] at HM9;have HTY:=Zh (HTR.o w8 (HAl.o.trans HAX.o) _ HWX.o ⟨g3,0,none⟩ m N3 _ HM9.o Oo (Raf HSH.o));rw [←Qxa,←Qhe,←HT1.o] at HTY;clear HM9
        go_wp2_with fail
        with_reducible refine HTY.o.mono ?_
        rintro e w5 ⟨rfl,hw5,ha5⟩;have HW5:=Zh hw5;have HA5:=Zh (HAX.o.trans ha5);clear hw5 ha5 HTY
        exact Kdh
theorem Qmc (n:Nat)(hn:n≤1000000000)(W:World):(Instr.makeSlice 27 (.int .i64 (n:Int)) (.int .i64 (n:Int))).run prog W=.ok (.slice (some ⟨W.heap.size,0,none⟩) n n) (W.alloc (.cells (Qbg (.slice none 0 0) n) 64)) :=
 Qcv (P:=prog) 27 64 (.slice none 0 0) 24 infoR underlying27 rfl n Oo Oo .i64 .i64 W
theorem Rts.push {W:World}{g N:Nat} {rs:Lz} {l:Iz} {A:Oz} {n c k:Nat} (h:Rts W g N rs) (hk:rs.length=k) (hi:k<N) (hA:RdI W A n l) (hne:Qaa A≠some g) (h4:n≤c) (h5:c≤9223372036854775807) :
 Rts (W.setCell ⟨g,k,none⟩ (.slice A n c)) g N (rs ++[l]):=by subst hk;obtain ⟨h0,cs,h1,h2,hr⟩:=h;have hgb:=Qac W g rs.length (.slice A n c);refine ⟨by simp;omega,_,h1.set_ rs.length (.slice A n c),by simpa using h2,fun j l' hl=>?_⟩;by_cases e:rs.length=j;{subst e;rw [Yb (Zn _),Yy] at hl;exact Kdn};{have hj:j<rs.length:=by{have:=(Zs hl).1;simp at this;omega};rw [Yc hj] at hl;obtain ⟨A',n',c',g1,g2,g3,g4,g5⟩:=hr j l' hl;exact ⟨A',n',c',by rw [Array.getElem?_setIfInBounds_ne e];exact g1,g2.grown hgb g3,g3,g4,g5⟩}
theorem Rts.cellAt {W:World}{g N k:Nat} {rs:Lz} (h:Rts W g N rs) (hk:k<N):∃ v,∀ o,(W.alloc o).cell? ⟨g,k,none⟩=some v∧(W.alloc o).frozen? ⟨g,k,none⟩=false:=by obtain ⟨h0,cs,h1,h2,hr⟩:=h;refine ⟨cs[k]' Oo,fun o=>⟨?_,(h1.alloc o).frozen k⟩⟩;rw [(h1.alloc o).cell];exact Array.getElem?_eq_getElem Oo
theorem RdS.grown {w w':World}{A:Oz}{n g:Nat}{L:List Sv}(h:RdS w A n L) (hg:w.grownBy w' (some g)) (hne:Qaa A≠some g):RdS w' A n L :=
 ⟨h.1,fun i x hx=>by
  obtain ⟨b,o,e,h1,h2,h3⟩:=h.2 i x hx;subst e;have hbne:(some b:Option Nat)≠some g:=hne;have hb:=Qaj h1;have hk:=hg.block b hb (fun e=>hbne e);refine ⟨b,o,rfl,?_,?_,?_⟩
  all_goals
   unfold World.cell? at h1 h2 h3 ⊢;rw [hk]
   assumption⟩
theorem Qvq {n k:Nat}(hk:k<n):(Qbs n).take (k+1)=(Qbs n).take k ++[[(k:Int)+1]]:=by
 have hl:k<(Qbs n).length:=by simp [Qbs];exact hk
 rw [Yf hl];simp [Qbs]
theorem Qvo (dep cap lim:Int)(A T:Oz)(n c tc:Nat) (st:Pz) (ls:Lz) (w:World) (h:RdP w A n st) (hL:Qtb st) (ht:RdT w T (n+1) ls) (hs:sqB (n+1) ls=true) (hf:Qra cap lim ls st) (hn:n≤900) :
 Calls prog 43 #[Qia dep cap lim A n c,.slice T (n+1) tc] w fun e w'=>∃ (A':Addr) (m c':Nat) (L:List Sv) (R:Lz),e=.returned (.tuple #[.slice (some A') m c',.nilIface])∧RdT w' (some A') m R∧L.Perm (Qjo ls)∧L.Pairwise Qtf∧R.Perm (L.foldl (Qbp cap lim ls st) (Qbs n))∧R.Pairwise (fun a b=>Qco a<Qco b)∧Bw w w':=by
 have HFi:=Zh (show ∀ V,Bw w V→Calls prog 42 #[Qia dep cap lim A n c,.slice T (n+1) tc] V fun e w'=>e=.returned .nilIface∧Bw V w' from fun V hV=>Rca dep cap lim A T n c tc st ls V (h.below hV) (ht.below hV) hs hf Oo);have HLi:=Zh (show ∀ V,Bw w V→Calls prog 81 #[.slice T (n+1) tc] V fun e w'=>∃ A' m c' L,e=.returned (.slice A' m c')∧RdS w' A' m L∧L.Perm (Qjo ls)∧L.Pairwise Qtf∧(∀ g,g<V.heap.size→Qaa A'≠some g)∧Bw V w' from fun V hV=>list_any T (n+1) tc ls V (ht.below hV) hs Oo Oo);have HGo:=Zh (show ∀ V,Bw w V→∀ R m d r,RdI V R m r→m≤1000000000→Calls prog 86 #[Qia dep cap lim A n c,.slice T (n+1) tc,.slice R m d] V fun e w'=>e=.returned (.bool (Qej cap lim ls st r))∧Bw V w' from fun V hV R m d r hr hm=>Qvn dep cap lim A R T n c m d (n+1) tc st r ls V (h.below hV) hL hr (ht.below hV) (Qlq hs) Oo Oo hm);have hmk:=Qmc n Oo;have HLN:=Zh (Qsz hs);clear h hL ht hs hf;go_enter func43,ntmps43
 go_wp2_with fail
 (refine Qab ?_;intro w1 hw1);have hb1:Bw w w1:=by rw [hw1];exact Qag
 have hB:Blk w1 w.heap.size 42 #[.int .i64 dep,.int .i64 cap,.int .i64 lim,.slice A n c]:=by rw [hw1];exact Blk.new _ _ _
 clear hw1;with_reducible refine (HFi.o _ hb1).mono ?_
 rintro e w2 ⟨rfl,hb2⟩;have hB2:=hB.below hb2 hB.lt;obtain ⟨b0,b1,b2,b3⟩:=hB2.four;have hb3:Bw w w2:=Qag;clear HFi hB hb1 hb2;go_wp2_with fail
 obtain ⟨w3,hw3⟩:=Zx (w2.alloc (.cells (Qbg (.slice none 0 0) n) 64));rw [←hw3];have hb4:Bw w w3:=by rw [hw3];exact Qag
 have hX3:Blk w3 w.heap.size 42 #[.int .i64 dep,.int .i64 cap,.int .i64 lim,.slice A n c]:=by rw [hw3];exact hB2.alloc _
 have hR3:Rts w3 w2.heap.size n []:=⟨Nat.zero_le _,Qbg (.slice none 0 0) n,by rw [hw3];exact Blk.new _ _ _,by simp [Qbg],fun j l hl=>by simp at hl⟩;have hz2:=hb3.size;have hz3:w.heap.size<w2.heap.size:=hB2.lt
 clear hw3 b0 b1 b2 b3 hB2 hmk;go_loopw [26] (fun i W=>Bw w W∧Blk W w.heap.size 42 #[.int .i64 dep,.int .i64 cap,.int .i64 lim,.slice A n c]∧∃ k:Nat,k≤n∧i=.int .i64 k∧Rts W w2.heap.size n ((Qbs n).take k)) (fun i _=>n-(intOf i).toNat)
 case atStart=>exact ⟨hb4,hX3,0,Nat.zero_le _,rfl,hR3⟩
 case round =>
  clear hb4 hX3 hR3;obtain ⟨hbl,hX,k,hk,rfl,hR⟩:=hrel;by_cases hlt:k<n
  · obtain ⟨v,hv⟩:=hR.cellAt hlt;(have hv1:=fun o=>(hv o).1);(have hv2:=fun o=>(hv o).2);(have HN:=Zh (Qvq hlt);have hlen:((Qbs n).take k).length=k:=by simp [Qbs];omega);(have hz4:=hR.lt;have i1:0≤(k:Int):=Oo);(have i2:(k:Int)<n:=Oo);clear hv;go_wp2_with fail
    have e0:(wr.setCell ⟨w2.heap.size,k,none⟩ (.slice (some ⟨wr.heap.size,0,none⟩) 1 1)).alloc (.cells #[.int .i64 ((k:Int)+1)] 3)=(wr.alloc (.cells #[.int .i64 ((k:Int)+1)] 3)).setCell ⟨w2.heap.size,k,none⟩ (.slice (some ⟨wr.heap.size,0,none⟩) 1 1) :=
     (World.setCell_alloc_past _ _ _ _ hz4).symm
    rw [e0];have hb5:Blk (wr.alloc (.cells #[.int .i64 ((k:Int)+1)] 3)) wr.heap.size 3 (Qbr [(k:Int)+1]):=Blk.new _ _ _;have hP:=Rts.push (n:=1) (c:=1) (hR.below (Below.alloc (Zr _ _) (Zn _) (.cells #[.int .i64 ((k:Int)+1)] 3))) hlen hlt (hb5.rdI rfl) (by simp [Qaa];omega) (Zn _) Oo;exact ⟨⟨Qag,Qiq,k+1,Oo,by go_num,by rw [HN.o];exact hP⟩,by simp [intOf];omega⟩
  · (obtain rfl:k=n:=Oo);rw [Ye (by simp [Qbs])] at hR;have HS:=Zh (Qen k);(go_wp2_with fail);(with_reducible refine (HLi.o _ hbl).mono ?_);rintro e w5 ⟨A5,m5,c5,L,rfl,hLr,hLp,hLs,hLf,hb5⟩;have hLf5:=hLf w2.heap.size hR.lt;have hR5:=hR.below hb5;have hX5:=hX.below hb5 hX.lt;have hbl5:Bw w w5:=Qag;have HLP:=Zh hLp;have HLS:=Zh hLs;have hm5:m5≤810000:=by{have h1:=hLr.1;have h2:=hLp.length_eq;have h3:=Qom ls (ls.length-1) (ls.length-1);have h4:=HLN.o;unfold Qjo at h2;have h5:(ls.length-1)*(ls.length-1)≤900*900:=Nat.mul_le_mul Oo Oo;omega};have HLL:=Zh hLr.1;clear hLp hLs hR hX hbl hb5 HLi;(go_wp2_with fail);(go_loopw [7,39] (fun a i W=>Bw w W∧Blk W w.heap.size 42 #[.int .i64 dep,.int .i64 cap,.int .i64 lim,.slice A k c]∧∃ (q:Nat) (rs:Lz),q≤m5∧i=.int .i64 q∧a=.slice (some ⟨w2.heap.size,0,none⟩) rs.length k∧Rts W w2.heap.size k rs∧Qbl k rs∧rs=(L.take q).foldl (Qbp cap lim ls st) (Qbs k)∧RdS W A5 m5 L) (fun _ i _=>m5-(intOf i).toNat));case atStart=>exact ⟨hbl5,hX5,0,Qbs k,Nat.zero_le _,rfl,by simp [Qbs],hR5,HS.o,Sm,hLr⟩
    case round =>
     have hw5:=hbl5.size;clear hbl5 hX5 hR5 hLr;obtain ⟨hbl,hX,q,rs,hq,rfl,rfl,hR,hP,hrs,hSv⟩:=hrel;have HRS:=Zh hrs;have HPP:=Zh hP;have hrl:=hR.1;clear hrs;by_cases hlt2:q<m5
     · obtain ⟨sb,so,I,J,S,rfl,hx,c0,c1,c2⟩:=hSv.at_ hlt2;(have HN:=Zh (Rfb (Qbp cap lim ls st) (Qbs k) hx);have i1:0≤(q:Int):=Oo);(have i2:(q:Int)<m5:=Oo);clear hx hP;(go_wp2_with fail);(refine Qab ?_;intro w6 hw6);(have hbr:Bw wr w6:=by rw [hw6];exact Qag);(have hbox:Blk w6 wr.heap.size 161 #[.int .i64 I,.int .i64 J,.int .i64 S]:=by rw [hw6];exact Blk.new _ _ _);have hb6:Bw w w6:=Zb hbl hbr;have hR6:=hR.below hbr;have hX6:=hX.below hbr hX.lt;have hSv6:=hSv.below hbr;have p0:w6.cell? ⟨wr.heap.size,0,none⟩=some (.int .i64 I):=Zq hbox;have p1:w6.cell? ⟨wr.heap.size,1,none⟩=some (.int .i64 J):=Zq hbox;clear hw6 hR hX hSv hbl hbox c0 c1 c2;have HNX:=Zh (show (L.take (q+1)).foldl (Qbp cap lim ls st) (Qbs k)=Qbp cap lim ls st rs (I,J,S) by rw [HN.o,←HRS.o]);(clear HN HRS;with_reducible refine (Rew w2.heap.size k k wr.heap.size k I rs w6 hR6 HPP.o Oo Oo p0).mono ?_);rintro e w7 ⟨rfl,hb67⟩;have hb7:Bw w w7:=Zb hb6 hb67;have hR7:=hR6.below hb67;have hX7:=hX6.below hb67 hX6.lt;have hSv7:=hSv6.below hb67;have p1':=Zc hb67 (Zn _) p1;have hsz7:wr.heap.size≤w7.heap.size:=Yx hbr.size hb67.size;clear hR6 hX6 hSv6 p0 p1 hb6 hb67 hbr;have hfc:=Qro rs I;generalize hfi:Qew rs I=fi at *;have HFI:=Zh hfi;clear hfi;(go_wp2_with fail);(with_reducible refine (then_any w2.heap.size k k wr.heap.size k J rs w7 hR7 HPP.o Oo Oo p1').mono ?_);rintro e w8 ⟨rfl,hb78⟩;have hb8:Bw w w8:=Zb hb7 hb78;have hR8:=hR7.below hb78;have hX8:=hX7.below hb78 hX7.lt;have hSv8:=hSv7.below hb78;clear hR7 hX7 hSv7 p1' hb7 hb78 hsz7;have htc:=Qvx rs J;generalize hti:Qhr rs J=ti at *;have HTI:=Zh hti;clear hti;(rcases hfc with hneg|⟨f,hf,rfl⟩);{have HJ:=Zh (Qgn (cap:=cap) (lim:=lim) (ls:=ls) (st:=st) (rs:=rs) (s:=(I,J,S)) (Or.inl (by simp only;rw [HFI.o];exact hneg)));clear htc;exact Kbi};(have f0:¬(f:Int)<0:=Oo);(rcases htc with hneg|⟨t,ht,rfl⟩);{have HJ:=Zh (Qgn (cap:=cap) (lim:=lim) (ls:=ls) (st:=st) (rs:=rs) (s:=(I,J,S)) (Or.inr (Or.inl (by simp only;rw [HTI.o];exact hneg))));exact Kbi};(have t0:¬(t:Int)<0:=Oo);by_cases hft:f=t;{subst hft;have HJ:=Zh (Qgn (cap:=cap) (lim:=lim) (ls:=ls) (st:=st) (rs:=rs) (s:=(I,J,S)) (Or.inr (Or.inr (by simp only;rw [HTI.o,HFI.o]))));exact Kbi};(have HJ:=Zh (Qxj (cap:=cap) (lim:=lim) (ls:=ls) (st:=st) (rs:=rs) (s:=(I,J,S)) (f:=f) (t:=t) HFI.o HTI.o hft);have ft0:((f:Int) == (t:Int))=false:=by simp only [beq_eq_false_iff_ne];omega);clear HFI HTI;obtain ⟨A1,n1,c1,d1,_,r1,e1,b1,m1⟩:=hR8.row hf;obtain ⟨A2,n2,c2,d2,_,r2,e2,b2,m2⟩:=hR8.row ht;obtain ⟨bd1,bd2⟩:=HPP.o.bd hf;obtain ⟨bd3,bd4⟩:=HPP.o.bd ht;have l1:=r1.1;have l2:=r2.1
       have HSX:=Zh (show ∀ V,Bw w8 V→V.cell? ⟨w2.heap.size,f,none⟩=some (.slice A1 n1 c1)∧V.cell? ⟨w2.heap.size,t,none⟩=some (.slice A2 n2 c2) from
        fun V hb=>⟨Zc hb (Zn _) d1,Zc hb (Zn _) d2⟩)
       (generalize hl1:rs.getD f []=row1 at *;generalize hl2:rs.getD t []=row2 at *;clear hl1 hl2 d1 d2;have i3:0≤(f:Int):=Oo);(have i4:(f:Int)<(rs.length:Int):=Oo);(have i5:0≤(t:Int):=Oo);(have i6:(t:Int)<(rs.length:Int):=Oo);(go_wp2_with fail);refine wp_region_held_drew (S:=fun V=>Bw w8 V) Kf Qag (fun _=>?_);refine tzd 0 60 ?_;refine tzd 4 64 ?_;refine Zk 8 (fun K hK=>?_);go_simp;refine hK.out _ _ Qag (fun _=>?_);clear hK K;refine Zk 9 (fun K hK=>?_);go_simp;(refine Qab ?_;intro w9 hw9);(have hB9:Blk w9 w8.heap.size 64 #[.slice A1 n1 c1,.slice A2 n2 c2]:=by rw [hw9];exact Qbi);(have hb89:Bw w8 w9:=by rw [hw9];exact Qag);(clear hw9;have hgl:w2.heap.size<w9.heap.size:=Yu hR8.lt hb89.size);(with_reducible refine (Qnj A1 A2 n1 c1 n2 c2 w8.heap.size 2 row1 row2 w9 hB9 (r1.below hb89) (r2.below hb89) b1 b2 m1 m2 Oo).mono ?_);rintro e w10 ⟨A3,m3,c3,rfl,hm3,r3,b3,mx3,hne3,hb910⟩;have hb10:Bw w8 w10:=Zb hb89 hb910;have hne:=hne3 _ hgl;clear hB9 hb89 hb910 hne3 r1 r2 hgl;(go_wp2_with fail);refine hK.out _ _ Qag (fun _=>?_);clear hK K;refine tz 10 13 ?_;refine Zd ?_;have hX10:=hX8.below hb10 hX8.lt;obtain ⟨x0,x1,x2,x3⟩:=hX10.four;(go_wp2_with fail);(refine Qab ?_;intro w11 hw11);(have hb11:Bw w8 w11:=by rw [hw11];exact Qag);(have r4:RdI w11 A3 m3 (row1 ++row2):=by rw [hw11];exact r3);(clear hw11 x0 x1 x2 x3 hX10 r3 HSX;with_reducible refine (HGo.o _ (Zb hb8 hb11) A3 m3 c3 (row1 ++row2) r4 hm3).mono ?_);rintro e w12 ⟨rfl,hb1112⟩;have hb12:Bw w8 w12:=Zb hb11 hb1112;have r5:=r4.below hb1112;have hR12:=hR8.below hb12;have hX12:=hX8.below hb12 hX8.lt;have hSv12:=hSv8.below hb12;have hbw12:Bw w w12:=Zb hb8 hb12;clear hR8 hX8 hSv8 hb8 hb11 hb1112 hb12 r4 hb10;have hj:=HJ.o;cases hg:Qej cap lim ls st (row1 ++row2);{have HJJ:=Zh (show Qbp cap lim ls st rs (I,J,S)=rs by rw [hj,hg];rfl);clear hj hg;(go_wp2_with fail);go_roundw;(case rel=>exact ⟨hbw12,hX12,q+1,rs,Oo,by go_num,rfl,hR12,HPP.o,by rw [HNX.o,HJJ.o],hSv12⟩);case measure=>simp [intOf];omega};{have HJJ:=Zh (show Qbp cap lim ls st rs (I,J,S)=(rs.set f (row1 ++row2)).eraseIdx t by rw [hj,hg];rfl);clear hj hg;obtain ⟨_,_,_,d1,d2,_⟩:=hR12.row hf;(go_wp2_with fail);(refine Qab ?_;intro w13 hw13);(have hR13:Rts w13 w2.heap.size k (rs.set f (row1 ++row2)):=by rw [hw13];exact hR12.set hf r5 hne b3 mx3);(have hgb13:w12.grownBy w13 (some w2.heap.size):=by rw [hw13];exact Qac _ _ _ _);(have hX13:Blk w13 w.heap.size 42 #[.int .i64 dep,.int .i64 cap,.int .i64 lim,.slice A k c]:=by rw [hw13];exact Qiq);(have hSv13:=hSv12.grown hgb13 hLf5;have hb13:Bw w w13:=by rw [hw13];exact Qag);(clear hw13 hR12 hX12 hSv12 hbw12 d1 d2;have hdel:=Rbr w2.heap.size k w2.heap.size t (rs.set f (row1 ++row2)) w13 hR13 (by rw [Yq];exact ht) Oo (Zn _);rw [Yq] at hdel;with_reducible refine hdel.mono ?_);(rintro e w14 ⟨rfl,hR14,hgb14,hb14⟩;have hX14:=hX13.below hb14 hz3;have hSv14:=hSv13.grown hgb14 hLf5;have hbw14:Bw w w14:=hb13.trans (hb14.mono hz2);have hlen:((rs.set f (row1 ++row2)).eraseIdx t).length=rs.length-1:=by rw [List.length_eraseIdx,Yq,if_pos ht]);have HPA:=Zh (HJJ.o▸Qfk (cap:=cap) (lim:=lim) (ls:=ls) (st:=st) (I,J,S) HPP.o);clear hdel hR13 hX13 hSv13 hb13 hgb13 hgb14 hb14;have HLE:=Zh hlen;clear hlen;(go_wp2_with fail);go_roundw;(case rel=>exact ⟨hbw14,hX14,q+1,(rs.set f (row1 ++row2)).eraseIdx t,Oo,by go_num,by rw [HLE.o],hR14,HPA.o,by rw [HNX.o,HJJ.o],hSv14⟩);case measure=>simp [intOf];omega}
     {(obtain rfl:q=m5:=Oo);have hrs:=HRS.o;rw [Ye (by rw [HLL.o];exact Zn _)] at hrs;have HRS2:=Zh hrs;have HD:=Zh (HPP.o.heads);clear hrs HRS hSv hX hP;(go_wp2_with fail);(with_reducible refine (sortRows w2.heap.size k k w.heap.size rs wr hR HPP.o.ne HD.o Oo hz2).mono ?_);rintro e w20 ⟨rfl,⟨rs',hp',hs',hR'⟩,hb20⟩;have HP1:=Zh hp';have HP2:=Zh hs';have hT:=hR'.rdT;rw [hp'.length_eq] at hT;have hbw20:Bw w w20:=hbl.trans hb20;clear hp' hs' hR hR' hb20 hbl;(go_wp2_with fail);(with_reducible refine (Qrk ⟨w2.heap.size,0,none⟩ rs.length k rs' w20 hT Oo).mono ?_);rintro e w21 ⟨A9,c9,rfl,hT9,hb21⟩;have hbw21:Bw w w21:=Zb hbw20 hb21;clear hT hb21 hbw20;(go_wp2_with fail);(go_ret2);exact ⟨A9,rs.length,c9,L,rs',rfl,hT9,HLP.o,HLS.o,by rw [←HRS2.o];exact HP1.o,HP2.o,hbw21⟩}
theorem Rts.slot {W:World}{g N k:Nat} {rs:Lz} (h:Rts W g N rs) (hk:k<N):(∃ v,W.cell? ⟨g,k,none⟩=some v)∧W.frozen? ⟨g,k,none⟩=false:=by obtain ⟨_,cs,h1,h2,_⟩:=h;exact ⟨⟨_,by rw [h1.cell];exact Array.getElem?_eq_getElem Oo⟩,h1.frozen k⟩
def FrsP (w:World)(n:Nat) (rs:Lz) (e:Ending) (w':World):Prop:=(∃ a c,e=.returned (.slice (some a) n c)∧RdT w' (some a) n rs)∧Bw w w'
theorem Rbg (w:World)(R:Oz)(n c:Nat) (rs:Lz) (h:RdT w R n rs) (hn:n≤1000000) (hsh:∀ r∈rs,r.length≤1000000) :
 Calls prog 149 #[.slice R n c] w (FrsP w n rs):=by
 have HR:=Zh h;have HRL:=Zh h.1;have HSH:=Zh hsh;have hmk:=Qmc n Oo;clear h hsh;go_enter func149,ntmps149
 go_wp2_with fail
 (refine Qai ?_;intro w1 hw1);have HB1:=Zh (show Bw w w1 by rw [hw1];exact Qag);have HR1:=Zh (show Rts w1 w.heap.size n (rs.take 0) from ⟨Nat.zero_le _,Qbg (.slice none 0 0) n,by rw [hw1];exact Blk.new _ _ _,by simp [Qbg],fun j l hl=>by simp at hl⟩);clear hw1 hmk;go_loopw [11] (fun q W=>∃ i:Nat,i≤n∧q=.int .i64 i∧Rts W w.heap.size n (rs.take i)∧Bw w W) (fun q _=>n-(intOf q).toNat)
 case atStart=>exact ⟨0,Nat.zero_le _,rfl,HR1.o,HB1.o⟩
 case round =>
  clear HR1 HB1;obtain ⟨i,hi,rfl,ht,hb⟩:=hrel;have HT:=Zh ht;have HB:=Zh hb;clear ht hb;by_cases hlt:i<n
  rotate_left;{(obtain rfl:i=n:=Oo);(have i1:¬(i:Int)<i:=Oo);have HX:=Zh HT.o.rdT;rw [Ye (by rw [HRL.o];exact Zn _),HRL.o] at HX;(go_wp2_with fail);go_ret;unfold FrsP;exact ⟨⟨_,_,rfl,HX.o⟩,HB.o⟩};obtain ⟨b,o,A1,n1,c1,l,rfl,hl,hc,hr,hnc,hcm⟩:=HR.o.at_ hlt;have j1:=Zc HB.o (Zn _) hc;have i1:(i:Int)<n:=Oo
  have i2:0≤(i:Int):=Oo
  have HTK:=Zh (show rs.take (i+1)=rs.take i ++[l] by rw [List.take_add_one,hl];rfl);obtain ⟨w2,hw2⟩:=Zx (wr.alloc (.cells #[.slice A1 n1 c1] 64));have hb2:Bw wr w2:=by rw [hw2];exact Qag
  have hG2:Blk w2 wr.heap.size 64 #[.slice A1 n1 c1]:=by rw [hw2];exact Blk.new _ _ _
  have hRd:RdT w2 (some ⟨wr.heap.size,0,none⟩) 1 [l]:=⟨rfl,fun k x hx=>by
   match k,hx with
   | 0,hx=>cases hx;exact ⟨wr.heap.size,0,A1,n1,c1,rfl,Zq hG2,(hr.below HB.o).below hb2,hnc,hcm⟩
   | k+1,hx=>simp at hx⟩
  have hfl:[l].flatten=l:=Sm
  have hll:l.length≤1000000:=HSH.o l (Zm hl);have HCC:=Zh (Qkw _ 1 1 [l] w2 hRd Oo (by rw [hfl];omega));rw [hfl] at HCC;have HB2:=Zh hb2;have HW2:=Zh hw2;have HTL:=Zh (show (rs.take i).length=i by rw [Yw,HRL.o];omega);clear hc hr hl hw2 hb2 hG2 hRd hfl;go_wp2_with fail
  rw [←HW2.o];with_reducible refine HCC.o.mono ?_
  rintro e w3 ⟨LA,cl,rfl,hla,hlc,hlm,hlg,hb23⟩;have HB3:=Zh (Zb HB2.o hb23);have hT3:=HT.o.below HB3.o;obtain ⟨⟨ov,q1⟩,q2⟩:=hT3.slot hlt;have HT4:=Zh (hT3.push (k:=i) HTL.o hlt hla (hlg _ (by have:=HB2.o.size;have:=HT.o.lt;omega)) hlc hlm);rw [←HTK.o] at HT4;have hlz:=hT3.lt;have hwz:=HB.o.size;clear hla hlg hb23 hT3 j1;go_wp2_with fail
  go_roundw;case rel=>exact ⟨i+1,Oo,by go_num,HT4.o,(Zb HB.o HB3.o).setCell Sm _⟩
  case measure=>simp [intOf];omega
theorem Rey:∀ {rs:Lz},(∀ r∈rs,r≠[])→rs.length≤rs.flatten.length
 | [],_=>Zn _
 | r::t,h=>by
  have h1:=Rey (rs:=t) fun x hx=>h x (List.mem_cons_of_mem _ hx)
  have h2:=List.length_pos_iff.2 (h r (List.mem_cons_self ..));rw [List.length_cons,List.flatten_cons,Yp];omega
theorem Qzh:∀ {rs:Lz} {r:Iz},r∈rs→r.length≤rs.flatten.length
 | x::t,r,h=>by
  rw [List.flatten_cons,Yp];rcases List.mem_cons.1 h with h1|h1
  {subst h1;omega};{have:=Qzh h1;omega}
theorem Qgt {N:Nat}{cap lim:Int} {ls rs:Lz} {st:Pz} (h:Qea N cap lim ls st rs=true):rs.length≤N∧(∀ r∈rs,r.length≤N)∧∀ r∈rs,r≠[]:=by have h:=of_decide_eq_true h;have hl:=h.2.2.2;refine ⟨by have:=Rey fun r hr=>(h.1 r hr).1;omega,fun r hr=>by have:=Qzh hr;omega,fun r hr=>(h.1 r hr).1⟩
theorem Qpd (ls rs:Lz):0≤Qba ls rs∧Qba ls rs≤1152921504606846976:=by
 unfold Qba;rcases List.eq_nil_or_concat rs with rfl|⟨t,r,rfl⟩
 {exact ⟨Int.le_refl _,(by decide:(0:Int)≤1152921504606846976)⟩};{rw [List.concat_eq_append,List.foldl_append];exact ⟨Rdq _ _,Qwm _ _⟩}
def OneP (w:World)(tot:Int) (p:Lz×Int) (e:Ending) (w':World):Prop:=(∃ a n c,e=.returned (.tuple #[.slice (some a) n c,.int .i64 (tot-p.2)])∧RdT w' (some a) n p.1)∧Bw w w'
theorem btOne_ok (w:World)(dep cap lim:Int)(A T:Oz)(n c tc:Nat) (st:Pz) (ls rs:Lz) (a0:Addr) (m d:Nat) (h:RdP w A n st) (hL:Qtb st) (ht:RdT w T (n+1) ls) (hs:Sq (n+1) ls) (hn:n≤900) (hR:RdT w (some a0) m rs) (hr:Qea n cap lim ls st rs=true) :
 Calls prog 93 #[Qia dep cap lim A n c,.slice T (n+1) tc,.slice (some a0) m d] w (OneP w (Qba ls rs) (oneR n cap lim ls st rs)):=by
 obtain ⟨hr1,hr2,hr3⟩:=Qgt hr;have hml:=hR.1;have HRT:=Zh (fun V (hV:Bw w V)=>Qix dep cap lim A (some a0) T n c m d (n+1) tc st ls rs V (h.below hV) hL (hR.below hV) (ht.below hV) hs Oo Oo Oo (fun r h=>by have:=hr2 r h;omega));have HTT:=Zh (fun V (hV:Bw w V)=>Qgi T (some a0) (n+1) tc m d ls rs V (ht.below hV) hs Oo (hR.below hV) (fun r h=>by have:=hr2 r h;omega) Oo);rw [hr] at HRT;have q22:∀ (w:World) (a:Oz) (n c n' c':Nat),(binOp .eql 27 (.slice a n c) (.slice none n' c')).run prog w=.ok (.bool a.isNone) w:=fun w a n c n' c'=>Lib.run_eql_slice_nil w _ _ a n c n' c' underlying27
 obtain ⟨tot,htot⟩:∃ t,t=Qba ls rs:=⟨_,rfl⟩;have HTO:=Zh htot;rw [←htot] at HTT ⊢;have HTU:=Zh (fun V bd bl bj bb p B hE hW hR' hB=>Rbi V B bd bl bj bb dep cap lim A T n c tc st ls rs p a0 m d hE hL hs Oo hW hR' Oo (fun r h=>by have:=hr2 r h;omega) hB);have HMV:=Zh (fun V bd bl bj bb p B hE hW hR' hB=>Rbh V B bd bl bj bb dep cap lim A T n c tc st ls rs p a0 m d hE hL hs Oo hW hR' Oo (fun r h=>by have:=hr2 r h;omega) hr3 hB);have HH:=Zh h;have HT:=Zh ht;have HR:=Zh hR;have HML:=Zh hml;have hbest:=Qku n cap lim ls st rs (Qvt rs);have HBT:=Zh hbest;have HBR:=Zh (Qgt (hbest.right hr));clear h hL ht hs hR hr hr1 hr2 hr3 hml htot hbest;go_enter func93,ntmps93
 go_wp2_with fail
 (refine Qab ?_;intro w1 hw1);have hb1:Bw w w1:=by rw [hw1];exact Qag
 have hJ1:Blk w1 w.heap.size 42 #[.int .i64 dep,.int .i64 cap,.int .i64 lim,.slice A n c]:=by rw [hw1];exact Blk.alloc (Blk.new _ _ _) _
 have hD1:Blk w1 (w.heap.size+1) 71 #[.slice T (n+1) tc]:=by rw [hw1];exact Blk.new' _ _ _ Sm
 clear hw1;with_reducible refine (HRT.o w1 hb1).mono ?_
 rintro e w2 ⟨rfl,hb12⟩;have HB2:=Zh (Zb hb1 hb12);have HJ2:=Zh (hJ1.below hb12 hJ1.lt);have HD2:=Zh (hD1.below hb12 hD1.lt);have d0:w2.cell? ⟨w.heap.size+1,0,none⟩=some (.slice T (n+1) tc):=Zq HD2.o;clear hb1 hJ1 hD1 hb12 HRT;go_wp2_with fail
 with_reducible refine (HTT.o w2 HB2.o).mono ?_
 rintro e w' ⟨rfl,rfl⟩;clear HTT d0;go_wp2_with fail
 (refine Qab ?_;intro w3 hw3);have hb3:Below w2.heap.size w2 w3:=by rw [hw3];exact Qag
 obtain ⟨bl,hbl⟩:∃ b,b=w2.heap.size:=⟨_,rfl⟩;obtain ⟨bd,hbd⟩:∃ b,b=w.heap.size+1:=⟨_,rfl⟩;have hb2l:=HB2.o.size;have hjl:=HJ2.o.lt
 have HE3:=Zh (show TrE (msk w3 (Ko bl (w2.heap.size+1))) bd w.heap.size dep cap lim A T n c tc st ls from by
  have h4:=HJ2.o.four;refine TrE.le (V:=w2) ⟨by rw [hbd,HD2.o.cell];rfl,h4.1,h4.2.1,h4.2.2.1,h4.2.2.2,HH.o.below HB2.o,HT.o.below HB2.o⟩ (Le.mskBelow hb3 fun b hb=>⟨Oo,Oo⟩))
 have HW3:=Zh (show TrW w3 bl (w2.heap.size+1) ls rs (rs,tot) from ⟨by rw [hw3,hbl];exact Blk.alloc (Blk.new _ _ _) _,⟨none,0,0,by rw [hw3];exact Blk.new' _ _ _ Sm,.inl ⟨HTO.o,rfl,rfl⟩⟩,Oo⟩);have HR3:=Zh (show RdT (msk w3 (Ko bl (w2.heap.size+1))) (some a0) m rs from (HR.o.below HB2.o).le (Le.mskBelow hb3 fun b hb=>⟨Oo,Oo⟩));obtain ⟨bb,hbb⟩:∃ b,b=w2.heap.size+1:=⟨_,rfl⟩;rw [←hbb] at HE3 HW3 HR3;have HBL:=Zh (show w.heap.size≤bl∧w.heap.size≤bb∧w.heap.size≤w3.heap.size from ⟨Oo,Oo,by have:=hb3.size;omega⟩);have HB3:=Zh (Zb HB2.o hb3);rw [←hbb,←hbl,←hbd];clear hw3 hb3 hbl hbd hbb hb2l hjl HJ2 HD2 HB2;with_reducible refine (HTU.o w3 bd bl w.heap.size bb (rs,tot) w.heap.size HE3.o HW3.o HR3.o HBL.o).mono ?_
 rintro e w4 ⟨rfl,hw4,ha4⟩;have HW4:=Zh hw4;have HA4:=Zh ha4;clear hw4 ha4 HTU HW3;go_wp2_with fail
 with_reducible refine (HMV.o w4 bd bl w.heap.size bb _ w.heap.size (HE3.o.le (Qaz.msk HA4.o.kept)) HW4.o (HR3.o.le (Qaz.msk HA4.o.kept)) ⟨HBL.o.1,HBL.o.2.1,Yx HBL.o.2.2 HA4.o.size⟩).mono ?_
 rintro e w5 ⟨rfl,hw5,ha5⟩;have hbo:flR n cap lim ls st (flR n cap lim ls st (rs,tot) (Qme rs m)) (Qlx rs m)=oneR n cap lim ls st rs:=by{unfold oneR bestR Qvt flR;rw [List.foldl_append,HML.o,HTO.o]};rw [hbo] at hw5;have HB5:=Zh ((HB3.o.trans HA4.o.bel).trans ha5.bel);obtain ⟨best,hbe⟩:∃ p,p=oneR n cap lim ls st rs:=⟨_,rfl⟩;rw [←hbe] at hw5;have HBT2:=Zh (show Qth n cap lim ls st rs best by rw [hbe];exact HBT.o);have HBR2:=Zh (show best.1.length≤n∧(∀ r∈best.1,r.length≤n)∧∀ r∈best.1,r≠[] by rw [hbe];exact HBR.o);have HBE:=Zh hbe;have hlb:0≤best.2∧best.2≤tot∧tot≤1152921504606846976:=⟨by rw [HBT2.o.tot];exact (Qpd ls best.1).1,by rw [HTO.o];exact HBT2.o.le,by rw [HTO.o];exact (Qpd ls rs).2⟩;have HW5:=Zh hw5;obtain ⟨bp,bz⟩:=best;obtain ⟨A5,n5,c5,hbk,hor⟩:=hw5.b;have l5:w5.cell? ⟨bl,0,none⟩=some (.int .i64 bz):=Zq hw5.l;have b5:w5.cell? ⟨bb,0,none⟩=some (.slice A5 n5 c5):=Zq hbk;have f5:=hbk.frozen 0;have hne:¬bl=bb:=hw5.ne;have HR5:=Zh (HR.o.below HB5.o);have wz:IntKind.i64.wrap (tot-bz)=tot-bz:=IntWalk.i64_in _ (by simp only at hlb;omega);clear hw5 ha5 hbo hbe hlb HW4 HA4 HE3 HR3 HB3 HMV HBT HBR;rcases hor with ⟨g1,g2,rfl⟩|⟨g1,⟨fa,rfl⟩,g3⟩
 focus
  simp only at g2;have HG2:=Zh g2;have b6:(w5.setCell ⟨bb,0,none⟩ (.slice (some a0) m d)).cell? ⟨bb,0,none⟩=some (.slice (some a0) m d):=World.cell?_setCell_same _ _ _ b5;have l6:(w5.setCell ⟨bb,0,none⟩ (.slice (some a0) m d)).cell? ⟨bl,0,none⟩=some (.int .i64 bz):=by rw [World.cell?_setCell_far _ _ _ _ (fun e=>hne e.symm)];exact l5
  have HB6:=Zh (show Bw w (w5.setCell ⟨bb,0,none⟩ (.slice (some a0) m d)) from HB5.o.setCell (by simp only;exact HBL.o.2.1) _)
  have HF6:=Zh (show RdT (w5.setCell ⟨bb,0,none⟩ (.slice (some a0) m d)) (some a0) m bp from by rw [HG2.o];exact HR.o.below HB6.o)
  clear g1 g2 hbk
  go_wp2_with fail
  obtain ⟨w6,hw6⟩:=Zx (w5.setCell ⟨bb,0,none⟩ (.slice (some a0) m d));rw [←hw6] at b6 l6 HB6 HF6 ⊢;obtain ⟨fa,rfl⟩:∃ x,x=a0:=⟨_,rfl⟩;obtain ⟨fn,rfl⟩:∃ x,x=m:=⟨_,rfl⟩;obtain ⟨fc,rfl⟩:∃ x,x=d:=⟨_,rfl⟩;clear hw6 l5 b5 f5 hne
 rotate_left
 focus
  have HF6:=Zh (show RdT w5 (some fa) n5 bp from g3.le (Qan _ _))
  have HB6:=HB5;have b6:=b5;have l6:=l5;clear g1 g3 hbk
  go_wp2_with fail
  obtain ⟨w6,rfl⟩:∃ x,x=w5:=⟨_,rfl⟩;obtain ⟨fn,rfl⟩:∃ x,x=n5:=⟨_,rfl⟩;obtain ⟨fc,rfl⟩:∃ x,x=c5:=⟨_,rfl⟩;clear l5 b5 f5 hne
 rotate_left
 all_goals
  have HSX:=Zh (show ∀ V,Bw w6 V→V.cell? ⟨bb,0,none⟩=some (.slice (some fa) fn fc)∧V.cell? ⟨bl,0,none⟩=some (.int .i64 bz) from fun V hV=>⟨Zc hV (Zn _) b6,Zc hV (Zn _) l6⟩)
  have HFS:=Zh (Rbg w6.drew (some fa) fn fc bp (HF6.o.below (Zr _ _).drew) (by have:=HF6.o.1;have:=HBR2.o.1;omega) (fun r hr=>by have:=HBR2.o.2.1 r hr;omega));clear b6 l6;refine wp_region_held_drew (S:=fun V=>Bw w6 V) Kf (Zr _ _).drew (fun _=>?_);refine tz 0 31 ?_;refine tzb 2 33 ?_;refine tz 4 35 ?_;refine Zk 1 (fun K hK=>?_);go_simp;with_reducible refine HFS.o.mono ?_
  unfold FrsP;rintro e w7 ⟨⟨ra,rc,rfl,hr7⟩,hb7⟩;have HR7:=Zh hr7;have HB7:=Zh ((Zr w6.heap.size w6).drew.trans hb7);go_simp;refine hK.out _ _ HB7.o (fun _=>?_);clear hK K hr7 hb7;refine tzb 5 6 ?_;refine Zd ?_
  go_wp2_with fail
  refine bodyPost_ret (v:=.tuple #[.slice (some ra) fn rc,.int .i64 (tot-bz)]) (by simp [results,results93,go_sem]) rfl ?_;unfold OneP;rw [←HBE.o];exact ⟨⟨ra,fn,rc,rfl,HR7.o⟩,Zb HB6.o HB7.o⟩
theorem lst_ex {P:Nat→Prop}:∀ n:Nat,P n→∃ k,P k∧∀ j,P j→k≤j:=by
 intro n
 induction n using Nat.strongRecOn with
 | ind n ih =>
  intro hn;by_cases h:∃ m,m<n∧P m
  {obtain ⟨m,h1,h2⟩:=h;exact ih m h1 h2};{exact ⟨n,hn,fun j hj=>Nat.le_of_not_lt (fun hlt=>h ⟨j,hlt,hj⟩)⟩}
open Classical in
noncomputable def lst (P:Nat→Prop):Nat:=if h:∃ k,P k∧∀ j,P j→k≤j then h.choose else 0
theorem Rgk {P:Nat→Prop}(h:∃ k,P k):∃ k,lst P=k∧P k:=by
 have h2:∃ k,P k∧∀ j,P j→k≤j:=by obtain ⟨n,hn⟩:=h;exact lst_ex n hn
 refine ⟨_,rfl,?_⟩;unfold lst;rw [dif_pos h2];exact h2.choose_spec.1
theorem lst_le {P:Nat→Prop}{k:Nat}(h:P k):lst P≤k:=by have h2:∃ k,P k∧∀ j,P j→k≤j:=lst_ex k h;unfold lst;rw [dif_pos h2];exact h2.choose_spec.2 k h
def AllP (w:World)(n:Nat)(cap lim:Int) (ls:List (List Int)) (st:List (Int×Int)) (rs:List (List Int)) (e:Ending) (w':World):Prop:=(∃ a m c out,e=.returned (.slice (some a) m c)∧RdT w' (some a) m out∧Qks n cap lim ls st rs out)∧Below w.heap.size w w'
structure BtI (w W:World) (n:Nat) (dep cap lim:Int) (A:Option Addr) (c:Nat) (ls:List (List Int)) (st:List (Int×Int)) (rs0:List (List Int)) (z:Value) (rs:List (List Int)):Prop where
 z:∃ a m d,z=.slice (some a) m d∧RdT W (some a) m rs
 j:Blk W w.heap.size 42 #[.int .i64 dep,.int .i64 cap,.int .i64 lim,.slice A n c]
 r:Qea n cap lim ls st rs=true
 all:∀ out,Qks n cap lim ls st rs out→Qks n cap lim ls st rs0 out
 b:Below w.heap.size w W
theorem btAll_ok (w:World)(dep cap lim:Int)(A T:Option Addr)(n c tc:Nat) (st:List (Int×Int)) (ls rs:List (List Int)) (a0:Addr) (m d:Nat) (h:RdP w A n st) (hL:Qtb st) (ht:RdT w T (n+1) ls) (hs:Sq (n+1) ls) (hn:n≤900) (hR:RdT w (some a0) m rs) (hr:Qea n cap lim ls st rs=true) :
 Calls prog 44 #[Qia dep cap lim A n c,.slice T (n+1) tc,.slice (some a0) m d] w (AllP w n cap lim ls st rs):=by
 obtain ⟨hr1,hr2,hr3⟩:=Qgt hr;have hml:=hR.1;have HRT:=Zh (fun V (hV:Below w.heap.size w V)=>Qix dep cap lim A (some a0) T n c m d (n+1) tc st ls rs V (h.below hV) hL (hR.below hV) (ht.below hV) hs (by omega) (by omega) (by omega) (fun r h=>by have:=hr2 r h;omega));rw [hr] at HRT;have HON:=Zh (fun V (hV:Below w.heap.size w V) a' m' d' rs' hR' hr'=>btOne_ok V dep cap lim A T n c tc st ls rs' a' m' d' (h.below hV) hL (ht.below hV) hs hn hR' hr');have HR:=Zh hR;have HRR:=Zh hr;clear h hL ht hs hn hR hr hr1 hr2 hr3 hml;go_enter func44,ntmps44
 go_wp2_with fail
 (refine Qab ?_;intro w1 hw1);have hb1:Below w.heap.size w w1:=by rw [hw1];exact Qag
 have hJ1:Blk w1 w.heap.size 42 #[.int .i64 dep,.int .i64 cap,.int .i64 lim,.slice A n c]:=by rw [hw1];exact Blk.new _ _ _
 clear hw1;with_reducible refine (HRT.out w1 hb1).mono ?_
 rintro e w2 ⟨rfl,hb12⟩;have HI2:=Zh (show BtI w w2 n dep cap lim A c ls st rs (.slice (some a0) m d) rs from ⟨⟨a0,m,d,rfl,HR.out.below (Zb hb1 hb12)⟩,hJ1.below hb12 hJ1.lt,HRR.out,fun _ h=>h,Zb hb1 hb12⟩);clear hb1 hJ1 hb12 HRT;go_wp2_with fail
 go_loopw [2] (fun z W=>∃ k:Nat,∃ r,BtI w W n dep cap lim A c ls st rs z r∧(Qba ls r).toNat=k) (fun z W=>lst fun k=>∃ r,BtI w W n dep cap lim A c ls st rs z r∧(Qba ls r).toNat=k)
 case atStart=>exact ⟨_,_,HI2.out,rfl⟩
 case round =>
  clear HI2;obtain ⟨k0,hk0,r,hI,hk⟩:=Rgk hrel;obtain ⟨a,m',d',rfl,hz⟩:=hI.z;have HK:=Zh (hk0.trans hk.symm);have HI:=Zh hI;have HOO:=Zh (HON.out wr hI.b a m' d' r hz hI.r);obtain ⟨x0,x1,x2,x3⟩:=hI.j.four;have HBT:=Zh (Qku n cap lim ls st r (Qvt r));clear hrel hk0 hk hI hz;go_wp2_with fail
  with_reducible refine HOO.out.mono ?_
  unfold OneP;rintro e w3 ⟨⟨a3,m3,d3,rfl,hr3⟩,hb3⟩;obtain ⟨p,hp⟩:=Zx (oneR n cap lim ls st r);have hbt:Qth n cap lim ls st r p:=by rw [hp];exact HBT.out
  rw [←hp] at hr3 ⊢;have HP:=Zh hp;have HR3:=Zh hr3;have HB3:=Zh hb3;have HBI:=Zh hbt;clear hr3 hb3 hbt hp x0 x1 x2 x3 HOO HBT;by_cases hs:Qba ls r-p.2≤0;{(have he:p.2=Qba ls r:=by have:=HBI.out.le;omega);have HFI:=Zh (HI.out.all r (.done (by rw [←HP.out];exact he)));have HRX:=HR3;rw [HBI.out.same he] at HRX;clear he;(go_wp2_with fail);go_ret;unfold AllP;exact ⟨⟨a3,m3,d3,r,rfl,HRX.out,HFI.out⟩,Zb HI.out.b HB3.out⟩}
  · have HIX:=Zh (show BtI w w3 n dep cap lim A c ls st rs (.slice (some a3) m3 d3) p.1 from ⟨⟨a3,m3,d3,rfl,HR3.out⟩,HI.out.j.below HB3.out HI.out.j.lt,HBI.out.right HI.out.r,fun out ho=>HI.out.all out (.step (by rw [←HP.out];omega) (by rw [←HP.out];exact ho)),Zb HI.out.b HB3.out⟩)
    have HLT:=Zh (show (Qba ls p.1).toNat<(Qba ls r).toNat by
     have h1:=HBI.out.tot;have h2:=(Qpd ls p.1).1;omega)
    (go_wp2_with fail);go_roundw;(case rel=>exact ⟨_,_,HIX.out,rfl⟩);case measure =>rw [HK.out];exact Nat.lt_of_le_of_lt (lst_le ⟨_,HIX.out,rfl⟩) HLT.out
