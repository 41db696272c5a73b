/- Qbl of the proof: QGoes, QRef, QRight, QTotal, BtP, QJn2, QCc, QSw, QJn3. -/
import Derived.Test.YtkaaakbejnlbgaaGreatDoorD2
import Derived.Deep.RegionHeld3
import Derived.Deep.DrawnRows
import Derived.Test.YtkaaakbejnlbgaaGreatDoorShelf2
import Derived.Shelf.Spec.SlicesGrow
import Derived.Shelf.SlicesE.Delete
import Derived.Shelf.GgSortFunc.Insertion
set_option maxHeartbeats 4000000
namespace Go.Proofs.YtkaaakbejnlbgaaGreatDoor
open Go.RowKit Go.Proofs.Tryz
attribute [local go_sem ↓] Go.wp_at_zero Go.wp_at_succ
theorem Qzy (ls:Lz):∀ (r:Iz) (i:Nat) (x:Int),0≤Qfv ls i x r∧Qfv ls i x r≤INF
 | [],i,x=>⟨Rdq _ _,Qwm _ _⟩
 | k::t,i,x=>by unfold Qfv;split;{unfold INF;omega};{exact Qzy ls t _ _}
theorem Qxn (ls:Lz) (r:Iz):0≤Qer ls r∧Qer ls r≤INF:=by unfold Qer;split;{unfold INF;omega};{exact Qzy ls r 0 0}
theorem Qzn (f:Nat)(hf:f=86∨f=145)(dep cap lim:Int)(A R T:Oz)(n c m d tn tc:Nat) (st:Pz) (r:Iz) (ls:Lz) (w:World) (h:RdP w A n st) (hL:Qtb st) (hr:RdI w R m r) (ht:RdT w T tn ls) (hs:Sq tn ls) (h0:0<tn) (hn:n≤4000000000000000000) (hm:m≤1000000000) :
 Calls prog f #[Qia dep cap lim A n c,.slice T tn tc,.slice R m d] w fun e w'=>e=.returned (.bool (Qej cap lim ls st r))∧Bw w w':=by
 have HJ:=Zh (show ∀ V,Bw w V→Calls prog 110 #[Qia dep cap lim A n c,.slice R m d] V fun e w'=>e=.returned (.int .i64 (Qdm st r))∧Bw V w' from fun V hV=>Qny dep cap lim A R n c m d st r V (h.below hV) hL (hr.below hV) hn hm);have HK:=Zh (show ∀ V,Bw w V→Calls prog 94 #[.slice T tn tc,.slice R m d] V fun e w'=>e=.returned (.int .i64 (Qer ls r))∧V=w' from fun V hV=>Qgl T R tn tc m d ls r V (ht.below hV) hs h0 (hr.below hV) Oo);have HG:=Zh (show Qej cap lim ls st r=(decide (Qdm st r≤cap) && (decide (Qer ls r<1152921504606846976) && decide (Qer ls r≤lim))) from rfl);clear h hL hr ht hs;generalize Qdm st r=x at *;generalize Qer ls r=y at *;rcases hf with rfl|rfl
 focus go_enter func86,ntmps86
 rotate_left;focus go_enter func145,ntmps145
 rotate_left;all_goals go_wp2_with fail
 all_goals
  with_reducible refine (HK.o _ Qag).mono ?_
  rintro e w' ⟨rfl,rfl⟩
  go_wp2_with fail
  (refine Qai ?_;intro w1 hw1)
  have hb1:Bw w w1:=by rw [hw1];exact Qag
  have hB:Blk w1 w.heap.size 42 #[.int .i64 dep,.int .i64 cap,.int .i64 lim,.slice A n c]:=by rw [hw1];exact Blk.new _ _ _
  obtain ⟨b0,b1,b2,b3⟩:=hB.four;clear hw1 hB HK
  have HSX:=Zh (show ∀ V,Bw w1 V→V.cell? ⟨w.heap.size,0,none⟩=some (.int .i64 dep)∧V.cell? ⟨w.heap.size,1,none⟩=some (.int .i64 cap)∧V.cell? ⟨w.heap.size,2,none⟩=some (.int .i64 lim)∧V.cell? ⟨w.heap.size,3,none⟩=some (.slice A n c) from
   fun V hb=>⟨Zc hb (Zn _) b0,Zc hb (Zn _) b1,Zc hb (Zn _) b2,Zc hb (Zn _) b3⟩)
  refine wp_region_held_drew (S:=fun V=>Bw w1 V) Kf Qag (fun _=>?_);refine tzb 0 11 ?_;refine tzb 3 14 ?_;refine Zk 2 (fun K hK=>?_);go_simp
  go_at_call 110
  with_reducible refine (HJ.o _ Qag).mono ?_
  rintro e w6 ⟨rfl,hb6⟩
  go_wp2_with fail
  have hb7:Bw w1 w6:=Qag;refine hK.out _ _ hb7 (fun _=>?_);clear hK K
  cases d1:decide (x≤cap)
  ·
   refine tzb 5 16 ?_;refine tw 7 18 ?_;refine tw 8 19 ?_;refine tzb 9 20 ?_;refine tw 11 22 ?_;refine tw 12 23 ?_;refine tw 13 24 ?_;refine tw 14 25 ?_;refine tz 15 26 ?_;refine tz 16 6 ?_;refine Zd ?_
   go_wp2_with fail
   go_ret
   exact ⟨Qao (by rw [HG.o];simp [d1]),Qag⟩
  · cases d2:decide (y<1152921504606846976)
    ·
     refine tzd 5 16 ?_;refine tzb 9 20 ?_;refine tw 11 22 ?_;refine tw 12 23 ?_;refine tw 13 24 ?_;refine tw 14 25 ?_;refine tz 15 26 ?_;refine tz 16 6 ?_;refine Zd ?_
     go_wp2_with fail
     go_ret
     exact ⟨Qao (by rw [HG.o];simp [d1,d2]),Qag⟩
    ·
     refine tzd 5 16 ?_;refine tzd 9 20 ?_;refine tzb 13 24 ?_;refine tz 15 26 ?_;refine tz 16 6 ?_;refine Zd ?_
     go_wp2_with fail
     go_ret
     exact ⟨Qao (by rw [HG.o];simp [d1,d2]),Qag⟩
theorem Qvn (dep cap lim:Int)(A R T:Oz)(n c m d tn tc:Nat) (st:Pz) (r:Iz) (ls:Lz) (w:World) (h:RdP w A n st) (hL:Qtb st) (hr:RdI w R m r) (ht:RdT w T tn ls) (hs:Sq tn ls) (h0:0<tn) (hn:n≤4000000000000000000) (hm:m≤1000000000) :
 Calls prog 86 #[Qia dep cap lim A n c,.slice T tn tc,.slice R m d] w fun e w'=>e=.returned (.bool (Qej cap lim ls st r))∧Bw w w' :=
 Qzn _ (.inl rfl) dep cap lim A R T n c m d tn tc st r ls w h hL hr ht hs h0 hn hm
theorem Qor (dep cap lim:Int)(A R:Oz)(n c m d:Nat) (st:Pz) (r:Iz) (w:World) (h:RdP w A n st) (hL:Qtb st) (hr:RdI w R m r) (hn:n≤4000000000000000000) (hm:m≤1000000000) :
 Calls prog 111 #[Qia dep cap lim A n c,.slice R m d] w fun e w'=>e=.returned (.int .i64 (Qdm st r))∧Bw w w':=by
 go_enter func111,ntmps111
 go_wp2_with fail
 (refine Qai ?_;intro w1 hw1);have hb1:Bw w w1:=by rw [hw1];exact Qag
 have hB:Blk w1 w.heap.size 32 #[.int .i64 dep,.int .i64 cap,.int .i64 lim,.slice A n c]:=by rw [hw1];exact Blk.new _ _ _
 have h1:=h.below hb1;have hr1:=hr.below hb1;have HL:=Zh hL;have HN:=Zh h.1;have HM:=Zh hr.1;obtain ⟨b0,b1,b2,b3⟩:=hB.four;clear hw1 h hr hL hB b0 b1 b2;go_loopw [5,6] (fun a i W=>Bw w1 W∧∃ k:Nat,k≤m∧i=.int .i64 k∧a=.int .i64 (Qdm st (r.take k))) (fun _ i _=>m-(intOf i).toNat)
 case atStart=>exact ⟨Zr _ _,0,Nat.zero_le _,rfl,by simp [Qdm]⟩
 case round =>
  obtain ⟨hbl,k,hk,rfl,rfl⟩:=hrel;by_cases hlt:k<m
  · obtain ⟨b,o,y,rfl,hy,hc⟩:=hr1.at_ hlt;(have hx:=Zh (Qqm (st:=st) hy);have hbd:=Qsc HL.o (r.take k);have hbd2:=Qob HL.o y;have htl:(r.take k).length≤1000000000:=by rw [Yw];omega);(clear hy;generalize Qdm st (r.take k)=x at *;have i1:0≤(k:Int):=Oo);have i2:(k:Int)<m:=Oo
    have HSX:=Zh (show ∀ V,Bw w1 V→V.cell? ⟨b,o+k,none⟩=some (.int .i64 y)∧V.cell? ⟨w.heap.size,3,none⟩=some (.slice A n c) from
     fun V hb=>⟨Zc hb (Zn _) hc,Zc hb (Zn _) b3⟩)
    by_cases g:1≤y∧y≤n
    · obtain ⟨z,rfl⟩:∃ z:Nat,y=z+1:=⟨(y-1).toNat,Oo⟩;(have hz:z<n:=Oo);obtain ⟨b2,o2,x2,y2,rfl,hx2,hc2,hd2⟩:=h1.at_ hz;have hv:Qey st ((z:Int)+1)=y2:=by{exact Kdw};(rw [hv] at hx hbd2;clear hx2 hv;have g1:1≤(z:Int)+1:=g.1;have g2:(z:Int)+1≤n:=g.2;have e1:IntKind.i64.wrap ((z:Int)+1-1)=(z:Int):=by rw [show (z:Int)+1-1=z by omega];exact IntWalk.i64_in _ Oo);(have e2:IntKind.i64.wrap (x+y2)=x+y2:=IntWalk.i64_in _ Oo;have e3:IntKind.i64.wrap (z:Int)=(z:Int):=IntWalk.i64_in _ Oo;have i3:0≤(z:Int):=Oo);(have i4:(z:Int)<n:=Oo);clear g;(go_wp2_with fail);refine wp_region_held_drew (S:=fun V=>Bw w1 V) Kf Qag (fun _=>?_);refine tzd 0 13 ?_;refine tzd 4 17 ?_;refine tzd 8 21 ?_;refine tzb 12 25 ?_;refine tz 14 27 ?_;refine Zd ?_;go_wp2_with fail
      have HSX:=Zh (show ∀ V,Bw w1 V→V.cell? ⟨b,o+k,none⟩=some (.int .i64 ((z:Int)+1))∧V.cell? ⟨w.heap.size,3,none⟩=some (.slice (some ⟨b2,o2,none⟩) n c)∧V.cell? ⟨b2,o2+z*2+1,none⟩=some (.int .i64 y2) from
       fun V hb=>⟨Zc hb (Zn _) hc,Zc hb (Zn _) b3,Zc hb (Zn _) hd2⟩)
      refine wp_region_held_drew (S:=fun V=>Bw w1 V) Kf Qag (fun _=>?_);refine tzd 0 28 ?_;refine tzd 4 32 ?_;refine tzd 8 36 ?_;refine tz 12 5 ?_;refine Zd ?_;exact Kdd
    {have hv:Qey st y=0:=by{unfold Qey;rw [if_neg (by rw [HN.o];exact g)]};rw [hv] at hx;clear hv;by_cases g1:1≤y;{(have g2:decide (y≤(n:Int))=false:=by simp;omega);clear g;(go_wp2_with fail);refine wp_region_held_drew (S:=fun V=>Bw w1 V) Kf Qag (fun _=>?_);refine tzd 0 13 ?_;refine tzd 4 17 ?_;refine tzd 8 21 ?_;refine tzb 12 25 ?_;refine tz 14 27 ?_;refine Zd ?_;exact Kdb};{(have g2:decide (y ≥ 1)=false:=by simp;omega);(have g3:decide (1≤y)=false:=by simp;omega);clear g;(go_wp2_with fail);refine wp_region_held_drew (S:=fun V=>Bw w1 V) Kf Qag (fun _=>?_);refine tzd 0 13 ?_;refine tzb 4 17 ?_;refine tw 6 19 ?_;refine tw 7 20 ?_;refine tw 8 21 ?_;refine tw 9 22 ?_;refine tw 10 23 ?_;refine tw 11 24 ?_;refine tw 12 25 ?_;refine tw 13 26 ?_;refine tz 14 27 ?_;refine Zd ?_;exact Kdb}}
  {(obtain rfl:k=m:=Oo);rw [Ye (by rw [HM.o];exact Zn _)];exact Kck}
theorem Qgr (A R:Oz)(n c m d:Nat) (ls:Lz) (r:Iz) (w:World) (h:RdT w A n ls) (hs:Sq n ls) (hn0:0<n) (hr:RdI w R m r) (hm:m≤4000000000000000000) :
 Calls prog 65 #[.slice A n c,.slice R m d] w fun e w'=>e=.returned (.int .i64 (Qer ls r))∧Bw w w':=by
 have hl:=hs.1;have hrl:=hr.1;have HA:=Zh Qlk;by_cases h0:m=0;{subst h0;have hr0:=Zh (List.length_eq_zero_iff.1 hrl);(go_enter func65,ntmps65);(go_wp2_with fail);go_ret;exact ⟨Qav (by unfold Qer;rw [if_pos hr0.out]),Qag⟩}
 · have hr0:=Zh (show Qer ls r=Qfv ls 0 0 r by unfold Qer;rw [if_neg (by intro e;rw [e] at hrl;simp at hrl;omega)]);(have HL:=Zh hl;have HR:=Zh hrl;have HS:=Zh hs;clear hl hrl hs;have e0:((m:Int) == 0)=false:=by simp;omega);(go_enter func65,ntmps65);(go_wp2_with fail);(go_loopw [5,6,7] (fun p a i W=>Bw w W∧∃ (k q:Nat) (x:Int),k≤m∧i=.int .i64 k∧a=.int .i64 x∧p=.int .i64 q∧q<n∧Qer ls r=Qfv ls q x (r.drop k)) (fun _ _ i _=>m-(intOf i).toNat));case atStart=>exact ⟨Zr _ _,0,0,0,Nat.zero_le _,rfl,rfl,rfl,hn0,hr0.out⟩
   case round =>
    obtain ⟨hbl,k,q,x,hk,rfl,rfl,rfl,hq,heq⟩:=hrel;have HE:=Zh heq;clear heq;by_cases hlt:k<m
    · obtain ⟨b,o,y,rfl,hy,hc⟩:=hr.at_ hlt;(have hlt':k<r.length:=by rw [HR.o];exact hlt);have hdrop:r.drop k=y::r.drop (k+1):=by{rw [List.drop_eq_getElem_cons hlt'];(congr 1);exact (Zs hy).2};have HD:=Zh hdrop;have j1:=Zc hbl (Zn _) hc;clear hdrop hlt' hy;(by_cases g1:y<1);{have HF:=Zh (show Qer ls r=INF by rw [HE.o,HD.o];unfold Qfv;rw [if_pos (Or.inl g1)]);exact Kdv}
      · by_cases g2:(n:Int)≤y;{have HF:=Zh (show Qer ls r=INF by rw [HE.o,HD.o];unfold Qfv;rw [if_pos (Or.inr (by rw [HL.o];exact g2))]);exact Kdv}
        · obtain ⟨z,rfl⟩:∃ z:Nat,y=z:=⟨y.toNat,Oo⟩;have hz:z<n:=Oo
          have HF:=Zh (show Qer ls r=Qfv ls z (Qio x (Qas ls q z)) (r.drop (k+1)) by
           rw [HE.o,HD.o]
           conv=>lhs;unfold Qfv
           rw [if_neg (by rw [HL.o];omega)]
           rfl)
          (obtain ⟨b1,o1,b2,o2,c2,rfl,t1,t2⟩:=h.two HS.o hq hz;have i1:0≤(k:Int):=Oo);(have i2:(k:Int)<m:=Oo);(have i3:0≤(q:Int):=Oo);(have i4:(q:Int)<n:=Oo);(have i5:0≤(z:Int):=Oo);have i6:(z:Int)<n:=Oo
          have HSX:=Zh (show ∀ V,Bw w V→V.cell? ⟨b,o+k,none⟩=some (.int .i64 z)∧V.cell? ⟨b1,o1+q,none⟩=some (.slice (some ⟨b2,o2,none⟩) n c2)∧V.cell? ⟨b2,o2+z,none⟩=some (.int .i64 (Qas ls q z)) from
           fun V hb=>⟨Zc hb (Zn _) hc,Zc hb (Zn _) t1,Zc hb (Zn _) t2⟩)
          clear t1 t2;(go_wp2_with fail);refine wp_region_held_drew (S:=fun V=>Bw w V) Kf Qag (fun _=>?_);refine tzd 0 31 ?_;refine tzd 4 35 ?_;refine tzb 8 39 ?_;refine tz 10 41 ?_;refine Zk 11 (fun K hK=>?_);go_simp;(go_at_call 31);(with_reducible refine (HA.o _ _ _).mono ?_);rintro e w' ⟨rfl,rfl⟩;(go_wp2_with fail);refine hK.out _ _ Qag (fun _=>?_);clear hK K;refine tz 12 6 ?_;refine Zd ?_;(go_wp2_with fail);go_roundw;(case rel=>exact ⟨Qag,k+1,z,_,Oo,by go_num,rfl,rfl,hz,HF.o⟩);case measure=>simp [intOf];omega
    · obtain rfl:k=m:=by omega
      have HF:=Zh (show Qer ls r=Qio x (Qas ls q 0) by
       rw [HE.o,List.drop_of_length_le (by rw [HR.o];exact Zn _)]
       rfl)
      (obtain ⟨b1,o1,b2,o2,c2,rfl,t1,t2⟩:=h.two HS.o hq hn0;have t3:=Zc hbl (Zn _) t1;have t4:=Zc hbl (Zn _) t2;rw [Nat.add_zero] at t4;have i4:(q:Int)<n:=Oo);(have i6:0<(n:Int):=Oo);(go_wp2_with fail);(with_reducible refine (HA.o _ _ _).mono ?_);rintro e w' ⟨rfl,rfl⟩;exact Kdv
theorem goesB_ne (cap lim:Int) (ls:Lz) (st:Pz) (r:Iz):Qej cap lim ls st r=(decide (Qdm st r≤cap) && ((Qer ls r != 1152921504606846976) && decide (Qer ls r≤lim))):=by
 have:=Qxn ls r;unfold Qej;unfold INF at *;congr 2
 by_cases h:Qer ls r=1152921504606846976;{simp [h]};{rw [show (Qer ls r != 1152921504606846976)=true by simpa using h];simp;omega}
theorem Qyi (dep cap lim:Int)(A R T:Oz)(n c m d tn tc:Nat) (st:Pz) (r:Iz) (ls:Lz) (w:World) (h:RdP w A n st) (hL:Qtb st) (hr:RdI w R m r) (ht:RdT w T tn ls) (hs:Sq tn ls) (h0:0<tn) (hn:n≤4000000000000000000) (hm:m≤1000000000) :
 Calls prog 64 #[Qia dep cap lim A n c,.slice T tn tc,.slice R m d] w fun e w'=>e=.returned (.bool (Qej cap lim ls st r))∧Bw w w':=by
 have HJ:=Zh (show ∀ V,Bw w V→Calls prog 111 #[Qia dep cap lim A n c,.slice R m d] V fun e w'=>e=.returned (.int .i64 (Qdm st r))∧Bw V w' from fun V hV=>Qor dep cap lim A R n c m d st r V (h.below hV) hL (hr.below hV) hn hm);have HK:=Zh (show ∀ V,Bw w V→Calls prog 65 #[.slice T tn tc,.slice R m d] V fun e w'=>e=.returned (.int .i64 (Qer ls r))∧Bw V w' from fun V hV=>Qgr T R tn tc m d ls r V (ht.below hV) hs h0 (hr.below hV) Oo);have HG:=Zh (goesB_ne cap lim ls st r);clear h hL hr ht hs;generalize Qdm st r=x at *;generalize Qer ls r=y at *;go_enter func64,ntmps64
 go_wp2_with fail
 (refine Qab ?_;intro w0 hw0);have hb0:Bw w w0:=by rw [hw0];exact Qag
 have hB:Blk w0 w.heap.size 32 #[.int .i64 dep,.int .i64 cap,.int .i64 lim,.slice A n c]:=by rw [hw0];exact Blk.new _ _ _
 clear hw0;with_reducible refine (HK.o _ Qag).mono ?_
 rintro e w1 ⟨rfl,hb01⟩;have hb1:Bw w w1:=Qag;have hB1:=hB.below hb01 hB.lt;obtain ⟨b0,b1,b2,b3⟩:=hB1.four;clear hB hB1 HK;go_wp2_with fail
 have HSX:=Zh (show ∀ V,Bw w1 V→V.cell? ⟨w.heap.size,0,none⟩=some (.int .i64 dep)∧V.cell? ⟨w.heap.size,1,none⟩=some (.int .i64 cap)∧V.cell? ⟨w.heap.size,2,none⟩=some (.int .i64 lim)∧V.cell? ⟨w.heap.size,3,none⟩=some (.slice A n c) from
  fun V hb=>⟨Zc hb (Zn _) b0,Zc hb (Zn _) b1,Zc hb (Zn _) b2,Zc hb (Zn _) b3⟩)
 refine wp_region_held_drew (S:=fun V=>Bw w1 V) Kf Qag (fun _=>?_);refine tzb 0 11 ?_;refine tzb 3 14 ?_;refine Zk 2 (fun K hK=>?_);go_simp;go_at_call 111
 with_reducible refine (HJ.o _ Qag).mono ?_
 rintro e w6 ⟨rfl,hb6⟩;go_wp2_with fail
 have hb7:Bw w1 w6:=Qag;refine hK.out _ _ hb7 (fun _=>?_);clear hK K;cases d1:decide (x≤cap)
 ·
  refine tzb 5 16 ?_;refine tw 7 18 ?_;refine tw 8 19 ?_;refine tzb 9 20 ?_;refine tw 11 22 ?_;refine tw 12 23 ?_;refine tw 13 24 ?_;refine tw 14 25 ?_;refine tz 15 26 ?_;refine tz 16 6 ?_;refine Zd ?_
  go_wp2_with fail
  go_ret
  exact ⟨Qao (by rw [HG.o];simp [d1]),Qag⟩
 · cases d2:(y != 1152921504606846976)
   ·
    refine tzd 5 16 ?_;refine tzb 9 20 ?_;refine tw 11 22 ?_;refine tw 12 23 ?_;refine tw 13 24 ?_;refine tw 14 25 ?_;refine tz 15 26 ?_;refine tz 16 6 ?_;refine Zd ?_
    go_wp2_with fail
    go_ret
    exact ⟨Qao (by rw [HG.o,d1,d2];rfl),Qag⟩
   ·
    refine tzd 5 16 ?_;refine tzd 9 20 ?_;refine tzb 13 24 ?_;refine tz 15 26 ?_;refine tz 16 6 ?_;refine Zd ?_
    go_wp2_with fail
    go_ret
    exact ⟨Qao (by rw [HG.o,d1,d2];simp),Qag⟩
def Qba (ls:Lz) (rs:Lz):Int:=rs.foldl (fun a r=>Qio a (Qer ls r)) 0
theorem Qpe {ls rs:Lz} {k:Nat} {r:Iz} (h:rs[k]?=some r):Qba ls (rs.take (k+1))=Qio (Qba ls (rs.take k)) (Qer ls r):=by have hlt:=(Zs h).1;have e:=(Zs h).2;unfold Qba;rw [Yf hlt,e];simp [List.foldl_append]
def Short (rs:Lz):Prop:=∀ r∈rs,r.length≤1000000000
def Qjn (N:Nat)(cap lim:Int) (ls:Lz) (st:Pz) (rs:Lz):Prop :=
 (∀ r∈rs,r≠[]∧Qej cap lim ls st r=true)∧rs.flatten.Nodup∧(∀ s∈rs.flatten,1≤s∧s≤N)∧rs.flatten.length=N
def Qtd (N:Nat)(sl P:Iz):Prop:=sl.length=N+1∧∀ s:Nat,s≤N→sl[s]?=some (if (s:Int)∈P then 1 else 0)
theorem Qtd.start (N:Nat):Qtd N (List.replicate (N+1) 0) []:=⟨Sm,fun s hs=>by rw [List.getElem?_replicate,if_pos Oo];simp⟩
theorem Qtd.next {N:Nat}{sl P:Iz}(h:Qtd N sl P){y:Nat}(hy:y≤N):Qtd N (sl.set y 1) (P ++[(y:Int)]):=by exact Kbw
theorem Qda {rs:Lz} {i:Nat} {r:Iz} (h:rs[i]?=some r):(rs.take (i+1)).flatten=(rs.take i).flatten ++r:=by have hlt:=(Zs h).1;have e:=(Zs h).2;rw [Yf hlt,e];simp
theorem Qzg {rs:Lz} {i k:Nat} {r:Iz} {y:Int} (h:rs[i]?=some r) (g:r[k]?=some y):∃ t,rs.flatten=((rs.take i).flatten ++r.take k) ++y::t:=by
 have e1:rs=rs.take (i+1) ++rs.drop (i+1):=(List.take_append_drop _ _).symm;have hk:=(Zs g).1;have e3:r=r.take k ++y::r.drop (k+1):=by{have:=List.take_append_drop k r;rw [List.drop_eq_getElem_cons hk,(Zs g).2] at this;exact this.symm};refine ⟨r.drop (k+1) ++(rs.drop (i+1)).flatten,?_⟩
 have e4:rs.flatten=(rs.take (i+1)).flatten ++(rs.drop (i+1)).flatten:=by
  conv=>lhs;rw [e1]
  rw [List.flatten_append]
 rw [e4,Qda h]
 conv=>lhs;rw [e3]
 simp
theorem Qvh (dep cap lim:Int)(A R T:Oz)(n c m d tn tc:Nat) (st:Pz) (ls rs:Lz) (w:World) (h:RdP w A n st) (hL:Qtb st) (hr:RdT w R m rs) (ht:RdT w T tn ls) (hs:Sq tn ls) (h0:0<tn) (hn:n≤1000000000) (hm:m≤1000000000)
 (hR:Qjn n cap lim ls st rs) :
 Calls prog 32 #[Qia dep cap lim A n c,.slice T tn tc,.slice R m d] w fun e w'=>e=.returned (.bool true)∧Bw w w':=by
 obtain ⟨hR1,hR2,hR3,hR4⟩:=hR
 have hflen:∀ r∈rs,r.length≤n:=fun r hr=>by
  rw [←hR4];obtain ⟨i,hi,e⟩:=List.getElem_of_mem hr;have:=Qda (rs:=rs) (i:=i) (r:=r) (by rw [Zg hi,e])
  have h2:rs.flatten=(rs.take (i+1)).flatten ++(rs.drop (i+1)).flatten:=by
   conv=>lhs;rw [←List.take_append_drop (i+1) rs]
   rw [List.flatten_append]
  rw [h2,this];simp;omega
 have HK:=Zh (show ∀ V,Bw w V→∀ A' n' c' l,RdI V A' n' l→l∈rs→Calls prog 64 #[Qia dep cap lim A n c,.slice T tn tc,.slice A' n' c'] V fun e w'=>e=.returned (.bool true)∧Bw V w' from fun V hV A' n' c' l hl hm=>(Qyi dep cap lim A A' T n c n' c' tn tc st l ls V (h.below hV) hL hl (ht.below hV) hs h0 Oo (by have:=hl.1;have:=hflen l hm;omega)).mono fun _ _ ⟨h1,h2⟩=>⟨by rw [h1,(hR1 l hm).2],h2⟩);have HM:=Zh hr.1;have HR1:=Zh (show ∀ r∈rs,r≠[] from fun r hr=>(hR1 r hr).1);have HR2:=Zh hR2;have HR3:=Zh hR3;have HR4:=Zh hR4;have HFL:=Zh hflen
 have hmk:∀ W,(Instr.makeSlice 64 (.int .i64 ((n:Int)+1)) (.int .i64 ((n:Int)+1))).run prog W=.ok (.slice (some ⟨W.heap.size,0,none⟩) (n+1) (n+1)) (W.alloc (.cells (Qbg (.int .i64 0) (n+1)) 3)) :=
  fun W=>Qcv (P:=prog) 64 3 (.int .i64 0) 8 Qbm underlying64 rfl (n+1) Oo Oo .i64 .i64 W
 clear h hL ht hs hR1 hR2 hR3 hR4 hflen;go_enter func32,ntmps32
 go_wp2_with fail
 (refine Qai ?_;intro w1 hw1);have hb1:Bw w w1:=by rw [hw1];exact Qag
 have hB1:Blk w1 w.heap.size 32 #[.int .i64 dep,.int .i64 cap,.int .i64 lim,.slice A n c]:=by rw [hw1];exact Blk.alloc (Blk.new _ _ _) _
 have hB2:Blk w1 (w.heap.size+1) 3 (Qbr (List.replicate (n+1) 0)):=by{rw [hw1,Qbx];exact Blk.new' _ _ _ Sm};clear hw1 hmk
 go_loopw [8,9] (fun a i W=>Bw w W∧Blk W w.heap.size 32 #[.int .i64 dep,.int .i64 cap,.int .i64 lim,.slice A n c]∧∃ (k:Nat) (sl:Iz),k≤m∧i=.int .i64 k∧a=.int .i64 ((rs.take k).flatten.length:Nat) ∧
  Blk W (w.heap.size+1) 3 (Qbr sl)∧Qtd n sl (rs.take k).flatten) (fun _ i _=>m-(intOf i).toNat)
 case atStart=>exact ⟨hb1,hB1,0,_,Nat.zero_le _,rfl,rfl,hB2,Qtd.start n⟩
 case round =>
  obtain ⟨hbl,hX,k,sl,hk,rfl,rfl,hY,hse⟩:=hrel;by_cases hlt:k<m
  · obtain ⟨b,o,A',n',c',l,rfl,hl,hc,hr',_,_⟩:=hr.at_ hlt;have hlm:=Zm hl;have hne:n'≠0:=fun e=>by{have:=hr'.1;rw [e] at this;exact HR1.o l hlm (List.length_eq_zero_iff.1 this)};(have e0:((n':Int) == 0)=false:=by simp;omega);have hll:=HFL.o l hlm;have hll2:=hr'.1;have j1:=Zc hbl (Zn _) hc;have HSE:=Zh hse;have HX:=Zh hl;have hfn:=Zh (Qda hl);clear hne hse hl;obtain ⟨wo,rfl⟩:∃ wo:World,wo=wr:=⟨_,rfl⟩;go_wp2_with fail
    go_loopw [8,10] (fun a i W=>Bw w W∧Blk W w.heap.size 32 #[.int .i64 dep,.int .i64 cap,.int .i64 lim,.slice A n c]∧∃ (q:Nat) (sl:Iz),q≤n'∧i=.int .i64 q∧a=.int .i64 (((rs.take k).flatten ++l.take q).length:Nat) ∧
     Blk W (w.heap.size+1) 3 (Qbr sl)∧Qtd n sl ((rs.take k).flatten ++l.take q)) (fun _ i _=>n'-(intOf i).toNat)
    case atStart=>exact ⟨hbl,hX,0,sl,Nat.zero_le _,rfl,Sm,hY,by simpa using HSE.o⟩
    case round =>
     clear hbl hX hY j1;obtain ⟨hbl,hX,q,sl,hq,rfl,rfl,hY,hse⟩:=hrel;have j1:=Zc hbl (Zn _) hc;(by_cases hlt2:q<n');{obtain ⟨b2,o2,y,rfl,hy,hcy⟩:=hr'.at_ hlt2;obtain ⟨t,hpre⟩:=Qzg HX.o hy;have hy1:=HR3.o y (by rw [hpre];simp);have hnot:y ∉ ((rs.take k).flatten ++l.take q):=fun hm=>by{have:=HR2.o;rw [hpre] at this;rw [List.nodup_append] at this;exact this.2.2 y hm y Sm rfl};have hlen:((rs.take k).flatten ++l.take q).length≤n:=by{have h5:=HR4.o;rw [hpre] at h5;simp only [Yp,List.length_cons] at h5 ⊢;omega};have hnext:((rs.take k).flatten ++l.take (q+1)).length=((rs.take k).flatten ++l.take q).length+1:=by{have:=(Zs hy).1;simp only [Yp,Yw];omega};have htake:(rs.take k).flatten ++l.take (q+1)=((rs.take k).flatten ++l.take q) ++[y]:=by{rw [Yf (Zs hy).1,(Zs hy).2];simp};(have HN:=Zh hnext;have HT:=Zh htake;obtain ⟨z,rfl⟩:∃ z:Nat,y=z:=⟨y.toNat,Oo⟩;have hz:z≤n:=Oo);(have hsz:=hse.2 z hz;rw [if_neg hnot] at hsz;have c1:=Zc hbl (Zn _) hcy;have c2:=hY.cellI hsz;have f2:=hY.frozen z;obtain ⟨x0,x1,x2,x3⟩:=hX.four;have HSE2:=Zh (hse.next hz);have g1:1≤(z:Int):=hy1.1;have g2:(z:Int)≤n:=hy1.2;have i5:0≤(z:Int):=Oo);(have i6:(z:Int)<n+1:=Oo);clear hpre hnot hnext htake hy hse hsz hy1;generalize ((rs.take k).flatten ++l.take q).length=len at *;(go_wp2_with fail);go_roundw;(case rel=>exact ⟨Qag,Qiq,q+1,_,Oo,by go_num,by rw [HN.o];go_num,hY.setI rfl,by rw [HT.o];exact HSE2.o⟩);case measure=>simp [intOf];omega}
     · (obtain rfl:q=n':=Oo);have et:l.take q=l:=Ye Oo;rw [et,←hfn.out] at hse;have HSE2:=Zh hse;have HE:=Zh (show ((rs.take k).flatten ++l.take q).length=(rs.take (k+1)).flatten.length by rw [et,hfn.out]);clear hse et;have hr2:=hr'.below hbl;obtain ⟨x0,x1,x2,x3⟩:=hX.four
       have HSX:=Zh (show ∀ V,Bw wr V→V.cell? ⟨w.heap.size,0,none⟩=some (.int .i64 dep)∧V.cell? ⟨w.heap.size,1,none⟩=some (.int .i64 cap)∧V.cell? ⟨w.heap.size,2,none⟩=some (.int .i64 lim)∧V.cell? ⟨w.heap.size,3,none⟩=some (.slice A n c)∧V.cell? ⟨b,o+k,none⟩=some (.slice A' q c') from
        fun V hb=>⟨Zc hb (Zn _) x0,Zc hb (Zn _) x1,Zc hb (Zn _) x2,Zc hb (Zn _) x3,Zc hb (Zn _) j1⟩)
       (have i1:0≤(k:Int):=Oo);(have i2:(k:Int)<m:=Oo);generalize ((rs.take k).flatten ++l.take q).length=len at *;(go_wp2_with fail);refine wp_region_held_drew (S:=fun V=>Bw wr V) Kf Qag (fun _=>?_);refine tzd 0 69 ?_;refine tzb 4 73 ?_;refine Zk 6 (fun K hK=>?_);go_simp;(go_at_call 64);(with_reducible refine (HK.o _ Qag _ _ _ _ (hr2.below Qag) hlm).mono ?_);rintro e w6 ⟨rfl,hb6⟩;(go_wp2_with fail);have hb7:Bw wr w6:=Qag;refine hK.out _ _ hb7 (fun _=>?_);clear hK K;refine tz 7 76 ?_;refine Zd ?_;(go_wp2_with fail);go_roundw;(case rel=>exact ⟨Qag,hX.below hb7 hX.lt,k+1,sl,Oo,by go_num,by rw [←HE.o],hY.below hb7 hY.lt,HSE2.o⟩);case measure=>simp [intOf];omega
  {(obtain rfl:k=m:=Oo);rw [Ye (by rw [HM.o];exact Zn _),HR4.o];obtain ⟨x0,x1,x2,x3⟩:=hX.four;(go_wp2_with fail);go_ret;exact ⟨Qao Sm,Qag⟩}
theorem Qmb (A R:Oz)(n c m d:Nat) (ls rs:Lz) (w:World) (h:RdT w A n ls) (hs:Sq n ls) (hn0:0<n) (hr:RdT w R m rs) (hsh:Short rs) (hm:m≤4000000000000000000) :
 Calls prog 33 #[.slice A n c,.slice R m d] w fun e w'=>e=.returned (.int .i64 (Qba ls rs))∧Bw w w':=by
 have HK:=Zh (show ∀ V,Bw w V→∀ A' n' c' l,RdI V A' n' l→l.length≤1000000000→Calls prog 65 #[.slice A n c,.slice A' n' c'] V fun e w'=>e=.returned (.int .i64 (Qer ls l))∧Bw V w' from fun V hV A' n' c' l hl hll=>Qgr A A' n c n' c' ls l V (h.below hV) hs hn0 hl (by have:=hl.1;omega));have HA:=Zh Qlk;have HM:=Zh hr.1;have HS:=Zh hsh;clear h hs hsh;go_enter func33,ntmps33
 go_wp2_with fail
 go_loopw [5,6] (fun a i W=>Bw w W∧∃ k:Nat,k≤m∧i=.int .i64 k∧a=.int .i64 (Qba ls (rs.take k))) (fun _ i _=>m-(intOf i).toNat)
 case atStart=>exact ⟨Zr _ _,0,Nat.zero_le _,rfl,by simp [Qba]⟩
 case round =>
  obtain ⟨hbl,k,hk,rfl,rfl⟩:=hrel;by_cases hlt:k<m
  {obtain ⟨b,o,A',n',c',l,rfl,hl,hc,hr',_,_⟩:=hr.at_ hlt;have hx:=Zh (Qpe (ls:=ls) hl);have hll:=HS.o l (Zm hl);have hr2:=hr'.below hbl;have j1:=Zc hbl (Zn _) hc;clear hl;generalize Qba ls (rs.take k)=x at *;(go_wp2_with fail);(with_reducible refine (HK.o _ hbl _ _ _ _ hr2 hll).mono ?_);rintro e w2 ⟨rfl,hb2⟩;(go_wp2_with fail);(with_reducible refine (HA.o _ _ _).mono ?_);rintro e w3 ⟨rfl,rfl⟩;exact Kdd};{(obtain rfl:k=m:=Oo);rw [Ye (by rw [HM.o];exact Zn _)];exact Kck}
def segR (r:Iz)(a b:Nat):Iz:=r.take a ++(((r.drop a).take (b+1-a)).reverse ++r.drop (b+1))
def turnR (rs:Lz) (q a b:Nat):Lz:=rs.set q (segR (rs.getD q []) a b)
def Qmh (r:Iz)(a:Nat):Iz:=r.take a ++r.drop (a+1)
def Qwg (rs:Lz) (q a t:Nat):Iz:=if t=q then Qmh (rs.getD q []) a else rs.getD t []
def putR (r:Iz)(b:Nat)(s:Int):Iz:=r.take b ++s::r.drop b
def Qhb (rs:Lz) (q a t b:Nat):Lz:=(rs.set q (Qmh (rs.getD q []) a)).set t (putR (Qwg rs q a t) b ((rs.getD q []).getD a 0))
def Quy (rs:Lz) (q a t b:Nat):Lz:=(Qhb rs q a t b).filter (fun r=>!r.isEmpty)
def Qpf (rs:Lz) (q a n:Nat):List Lz:=(List.range n).map fun k=>turnR rs q a (a+1+k)
def Qpg (rs:Lz) (q n:Nat):List Lz:=(List.range n).flatMap fun a=>Qpf rs q a ((rs.getD q []).length-(a+1))
def Qme (rs:Lz) (n:Nat):List Lz:=(List.range n).flatMap fun q=>Qpg rs q (rs.getD q []).length
def Qqp (rs:Lz) (q a t n:Nat):List Lz:=((List.range n).filter fun b=>!(decide (t=q) && decide (b=a))).map (Quy rs q a t)
def Qoe (rs:Lz) (q a n:Nat):List Lz:=(List.range n).flatMap fun t=>Qqp rs q a t ((Qwg rs q a t).length+1)
def Qof (rs:Lz) (q n:Nat):List Lz:=(List.range n).flatMap fun a=>Qoe rs q a rs.length
def Qlx (rs:Lz) (n:Nat):List Lz:=(List.range n).flatMap fun q=>Qof rs q (rs.getD q []).length
def Qvt (rs:Lz):List Lz:=Qme rs rs.length ++Qlx rs rs.length
theorem Qyt (rs:Lz) (q a n:Nat):Qpf rs q a (n+1)=Qpf rs q a n ++[turnR rs q a (a+1+n)]:=by simp [Qpf,List.range_succ]
theorem Qyu (rs:Lz) (q n:Nat):Qpg rs q (n+1)=Qpg rs q n ++Qpf rs q n ((rs.getD q []).length-(n+1)):=by simp [Qpg,List.range_succ]
theorem Qyv (rs:Lz) (n:Nat):Qme rs (n+1)=Qme rs n ++Qpg rs n (rs.getD n []).length:=by simp [Qme,List.range_succ]
theorem Qxt (rs:Lz) (q a t n:Nat):Qqp rs q a t (n+1)=Qqp rs q a t n ++if t=q∧n=a then [] else [Quy rs q a t n]:=by
 unfold Qqp;rw [List.range_succ,List.filter_append,List.map_append];congr 1
 by_cases h:t=q∧n=a;{rw [if_pos h];simp [h.1,h.2]};{rw [if_neg h];by_cases h1:t=q;{(have h2:n≠a:=fun e=>h ⟨h1,e⟩);simp [h1,h2]};{simp [h1]}}
theorem Qxu (rs:Lz) (q a n:Nat):Qoe rs q a (n+1)=Qoe rs q a n ++Qqp rs q a n ((Qwg rs q a n).length+1):=by simp [Qoe,List.range_succ]
theorem Qxv (rs:Lz) (q n:Nat):Qof rs q (n+1)=Qof rs q n ++Qoe rs q n rs.length:=by simp [Qof,List.range_succ]
theorem Qxw (rs:Lz) (n:Nat):Qlx rs (n+1)=Qlx rs n ++Qof rs n (rs.getD n []).length:=by simp [Qlx,List.range_succ]
section
variable (N:Nat) (cap lim:Int) (ls:Lz) (st:Pz)
instance (rs:Lz):Decidable (Qjn N cap lim ls st rs):=by unfold Qjn List.Nodup;infer_instance
def Qea (rs:Lz):Bool:=decide (Qjn N cap lim ls st rs)
def Rdc (p:Lz×Int) (c:Lz):Lz×Int:=if Qba ls c<p.2∧Qea N cap lim ls st c=true then (c,Qba ls c) else p
def bestR (rs:Lz) (l:List Lz):Lz×Int:=l.foldl (Rdc N cap lim ls st) (rs,Qba ls rs)
structure Qth (rs:Lz) (p:Lz×Int):Prop where
 tot:p.2=Qba ls p.1
 le:p.2≤Qba ls rs
 right:Qea N cap lim ls st rs=true→Qea N cap lim ls st p.1=true
 same:p.2=Qba ls rs→p.1=rs
theorem Qth.next {rs:Lz} {p:Lz×Int} (h:Qth N cap lim ls st rs p) (c:Lz):Qth N cap lim ls st rs (Rdc N cap lim ls st p c):=by unfold Rdc;split;{rename_i hc;exact ⟨rfl,by have:=h.le;simp only;omega,fun _=>hc.2,fun e=>by have:=h.le;have:=hc.1;simp only at e;omega⟩};{exact h}
theorem Reg (rs:Lz):∀ (l:List Lz) (p:Lz×Int),Qth N cap lim ls st rs p→Qth N cap lim ls st rs (l.foldl (Rdc N cap lim ls st) p)
 | [],_,h=>h
 | c::l,_,h=>Reg rs l _ (h.next N cap lim ls st c)
theorem Qku (rs:Lz) (l:List Lz):Qth N cap lim ls st rs (bestR N cap lim ls st rs l) :=
 Reg N cap lim ls st rs l _ ⟨rfl,Int.le_refl _,fun h=>h,fun _=>rfl⟩
def oneR (rs:Lz):Lz×Int:=bestR N cap lim ls st rs (Qvt rs)
inductive Qks:Lz→Lz→Prop
 | done {rs:Lz}:(oneR N cap lim ls st rs).2=Qba ls rs→Qks rs rs
 | step {rs out:Lz}:(oneR N cap lim ls st rs).2<Qba ls rs→Qks (oneR N cap lim ls st rs).1 out→Qks rs out
theorem Qks.uniq {rs x:Lz} (h:Qks N cap lim ls st rs x):∀ {y:Lz},Qks N cap lim ls st rs y→x=y:=by
 induction h with
 | done h1 =>
  intro y g
  cases g with
  | done _=>rfl
  | step h2 _=>omega
 | step h1 _ ih =>
  intro y g
  cases g with
  | done h2=>omega
  | step _ h2=>exact ih h2
theorem Qks.right {rs x:Lz} (h:Qks N cap lim ls st rs x) (hr:Qea N cap lim ls st rs=true):Qea N cap lim ls st x=true∧Qba ls x≤Qba ls rs:=by
 induction h with
 | done _=>exact ⟨hr,Int.le_refl _⟩
 | @step rs out h1 _ ih =>have hb:=Qku N cap lim ls st rs (Qvt rs);have h2:=ih (hb.right hr);have h3:=hb.tot;have h4:(oneR N cap lim ls st rs).2=Qba ls (oneR N cap lim ls st rs).1:=h3;exact ⟨h2.1,Oo⟩
end
theorem Qxs {rs:Lz} {q a t b:Nat} (hn:∀ r∈rs,r≠[]) (hq:q<rs.length) :
 Quy rs q a t b=if t≠q∧Qmh (rs.getD q []) a=[] then (Qhb rs q a t b).eraseIdx q else Qhb rs q a t b:=by
 have hall:∀ (i:Nat) (r:Iz),(Qhb rs q a t b)[i]?=some r→i≠q∨t=q∨Qmh (rs.getD q []) a≠[]→r≠[]:=by{intro i r hr hi;unfold Qhb at hr;rw [List.getElem?_set] at hr;by_cases e:t=i;{rw [if_pos e] at hr;(split at hr);{cases hr;simp [putR]};{cases hr}};{rw [if_neg e,List.getElem?_set] at hr;by_cases e2:q=i;{rw [if_pos e2] at hr;have hr':r=Qmh (rs.getD q []) a:=by{(split at hr);{exact (Yv hr).symm};{omega}};subst hr';(rcases hi with h|h|h);{exact absurd e2.symm h};{exact absurd (h.trans e2) e};{exact h}};{rw [if_neg e2] at hr;exact hn r (Zm hr)}}};have hlen:(Qhb rs q a t b).length=rs.length:=by simp [Qhb]
 unfold Quy;split
 · rename_i h;generalize hM:Qhb rs q a t b=M at *;have hqe:M[q]?=some []:=by{rw [←hM];unfold Qhb;rw [Yh h.1,Yg hq,h.2]};(have hql:q<M.length:=by rw [hlen];exact hq);have e1:M=M.take q ++[]::M.drop (q+1):=by{have:=List.take_append_drop q M;rw [List.drop_eq_getElem_cons hql] at this;rw [show M[q]=[] from by have:=Zg hql;rw [hqe] at this;exact (Yv this).symm] at this;exact this.symm};have h1:∀ x∈M.take q,x≠[]:=fun x hx=>by{obtain ⟨i,hi⟩:=Yr hx;have hl:=(Zs hi).1;rw [Yw] at hl;rw [List.getElem?_take_of_lt Oo] at hi;exact hall i x hi (.inl Oo)};have h2:∀ x∈M.drop (q+1),x≠[]:=fun x hx=>by{obtain ⟨i,hi⟩:=Yr hx;rw [List.getElem?_drop] at hi;exact hall _ x hi (.inl Oo)};rw [List.eraseIdx_eq_take_drop_succ]
   conv=>lhs;rw [e1]
   rw [List.filter_append,List.filter_cons_of_neg Sm];(congr 1);{exact List.filter_eq_self.2 (fun x hx=>by have:=h1 x hx;cases x with|nil=>exact absurd rfl this|cons _ _=>rfl)};{exact List.filter_eq_self.2 (fun x hx=>by have:=h2 x hx;cases x with|nil=>exact absurd rfl this|cons _ _=>rfl)}
 · rename_i h;refine List.filter_eq_self.2 (fun x hx=>?_);obtain ⟨i,hi⟩:=Yr hx
   have:=hall i x hi (by
    by_cases e:t=q
    · exact .inr (.inl e)
    · exact .inr (.inr (fun e2=>h ⟨e,e2⟩)))
   cases x with
   | nil=>exact absurd rfl this
   | cons _ _=>rfl
open Go.Lib Go.Shelf
theorem infoI2:∃ i,Tryz.prog.info? 3=some i∧i.zero=some (.int .i64 0)∧i.size=1∧i.bytes=8:=info_parts Qbm
theorem growNil (n:Nat)(w:World)(hn:n≤1000000000) :
 Calls prog 141 #[.slice none 0 0,.int .i64 n] w fun e w'=>∃ A' c',e=.returned (.slice A' 0 c')∧Own w' w.heap.size 3 1 A' 0 c' []∧Bw w w':=by
 rcases Nat.eq_zero_or_pos n with rfl|hn0
 {refine Calls.mono (show Calls prog 141 _ _ _ from Any8.slices_Grow_room growI none 0 0 0 w Oo Oo Oo Oo) ?_;rintro e w' ⟨rfl,rfl⟩;exact ⟨none,0,rfl,Own.nil _ _ _ _,Zr _ _⟩};obtain ⟨i,hi,hz,hs,hb⟩:=infoI2;have hcon:=Any8.slices_Grow_grow growI i (.int .i64 0) hi hz Oo none 0 0 n [] w Oo Oo (by rw [hb];omega) Oo Sm (fun _=>rfl) (fun a h=>by cases h);refine Calls.mono (show Calls prog 141 _ _ _ from hcon) ?_;rintro e w' ⟨rfl,rfl⟩;refine ⟨_,_,rfl,?_,Qag⟩;refine ⟨Sm,Or.inr ⟨w.heap.size,_,_,rfl,Zn _,heap_alloc_new _ _,Nat.zero_le _,grownCap_le_maxLen _ _ _ _ (by unfold maxLen;omega),?_,Sm⟩⟩;have:=grownCap_ge w (0+n) 0 (Tryz.growI_ren.t 25);simp [Builtin.zeroCells,Value.cells];simp at this;first | done | omega
theorem Qxb {ls:Lz} {k:Nat}:(ls.take k).flatten.length≤ls.flatten.length:=by
 conv=>rhs;rw [←List.take_append_drop k ls]
 rw [List.flatten_append,Yp];omega
theorem Qkw (A:Oz)(n c:Nat) (ls:Lz) (w:World) (h:RdT w A n ls) (hn:n≤1000000000) (hb:ls.flatten.length≤1000000000) :
 Calls prog 85 #[.slice A n c] w fun e w'=>∃ A' c',e=.returned (.slice A' ls.flatten.length c')∧RdI w' A' ls.flatten.length ls.flatten∧ls.flatten.length≤c'∧c'≤9223372036854775807∧(∀ g,g<w.heap.size→Qaa A'≠some g)∧Bw w w':=by
 have HL:=Zh h.1;have HF:=Zh (show ∀ k,(ls.take k).flatten.length≤ls.flatten.length from fun k=>Qxb);have HG:=Zh (growNil ls.flatten.length w hb);have HE:=Zh (show ls.take n=ls from Ye (by rw [h.1];exact Zn _));generalize ht:ls.flatten.length=t at *;have HT:=Zh ht;clear ht;go_enter func85,ntmps85
 go_wp2_with fail
 go_loopw [3,11] (fun a i W=>w=W∧∃ k:Nat,k≤n∧i=.int .i64 k∧a=.int .i64 ((ls.take k).flatten.length:Nat)) (fun _ i _=>n-(intOf i).toNat)
 case atStart=>exact ⟨by trivial,0,Nat.zero_le _,rfl,Sm⟩
 case round =>
  obtain ⟨rfl,k,hk,rfl,rfl⟩:=hrel;by_cases hlt:k<n
  {obtain ⟨b,o,A',n',c',l,rfl,hl,hc,hr,_,_⟩:=h.at_ hlt;(have hx:=Qda hl;have hx2:(ls.take (k+1)).flatten.length=(ls.take k).flatten.length+n':=by rw [hx,Yp,hr.1]);(have hle:=HF.o (k+1);have HX:=Zh hx2;rw [hx2] at hle;clear hx hx2 hl;generalize (ls.take k).flatten.length=s at *;have e1:IntKind.i64.wrap ((s:Int)+n')=(s:Int)+n':=IntWalk.i64_in _ Oo;have e2:¬((s:Int)+n'<0):=Oo);(go_wp2_with fail);go_roundw;(case rel=>exact ⟨by trivial,k+1,Oo,by go_num,by rw [HX.o];go_num⟩);case measure=>simp [intOf];omega};{(obtain rfl:k=n:=Oo);rw [HE.o,HT.o];(go_wp2_with fail);(with_reducible refine (HG.o).mono ?_);rintro e w2 ⟨A2,c2,rfl,hown,hb2⟩;(go_wp2_with fail);(go_loopw [6,27] (fun a i W=>Bw w W∧∃ (k2 m:Nat) (A3:Oz) (c3:Nat),k2≤k∧i=.int .i64 k2∧a=.slice A3 m c3∧m=(ls.take k2).flatten.length∧Own W w.heap.size 3 1 A3 m c3 (Qae (ls.take k2).flatten)) (fun _ i _=>k-(intOf i).toNat));(case atStart=>exact ⟨hb2,0,0,A2,c2,Nat.zero_le _,rfl,rfl,Sm,by simpa [Qae] using hown⟩);case round =>clear hown;obtain ⟨hbl,k2,m,A3,c3,hk2,rfl,rfl,hm,hown⟩:=hrel;(by_cases hlt2:k2<k);{obtain ⟨b,o,A',n',c',l,rfl,hl,hc,hr,_,_⟩:=h.at_ hlt2;(have hx:=Qda hl;have hx2:(ls.take (k2+1)).flatten.length=m+n':=by rw [hx,Yp,hr.1,hm]);have hle:=HF.o (k2+1);have HX:=Zh hx2;have HX1:=Zh hx;rw [hx2] at hle;have j1:=Zc hbl (Zn _) hc;have hrd:=(hr.below hbl).rdsI;have hsz:=hbl.size;clear hx hx2 hl hm;(go_wp2_with (at_builtin;with_reducible refine Qam rfl (.tmp 31) (.tmp 32) 64 rfl 3 _ 1 8 Qbm underlying64 rfl Oo rfl rfl hown hrd (Qaq _) Oo Oo Oo ?_));intro A6 c6 w6 hown6 hg6 _;have hb6:=Zo hbl hg6 hown Oo;clear hown hbl hg6 hrd j1;go_wp2;go_roundw;(case rel=>exact ⟨hb6,k2+1,m+n',A6,c6,Oo,by go_num,rfl,HX.o.symm,by rw [HX1.o,Qbq];exact hown6⟩);case measure=>simp [intOf];omega};{(obtain rfl:k2=k:=Oo);rw [HE.o] at hm hown;rw [HT.o] at hm;have hcap:=hown.cap;have hcm:=hown.capMax;have HR:=Zh hown.rds.rdI;have HZ:=Zh (show ∀ g,g<w.heap.size→Qaa A3≠some g from fun g hg e=>by have:=(hown.lt g e).1;omega);subst hm;clear hown;(go_wp2_with fail);go_ret;exact ⟨A3,c3,rfl,HR.o,Oo,Oo,HZ.o,Qag⟩}}
end Go.Proofs.YtkaaakbejnlbgaaGreatDoor
namespace Go.Proofs.YtkaaakbejnlbgaaGreatDoor
open Go.RowKit Go.Proofs.Tryz
theorem Qnj (A1 A2:Oz)(n1 c1 n2 c2 g c:Nat)(l1 l2:Iz)(w:World) (hB:Blk w g 64 #[.slice A1 n1 c1,.slice A2 n2 c2]) (h1:RdI w A1 n1 l1) (h2:RdI w A2 n2 l2) (b1:n1≤c1) (b2:n2≤c2) (m1:c1≤9223372036854775807) (m2:c2≤9223372036854775807) (hb:n1+n2≤1000000000) :
 Calls prog 85 #[.slice (some ⟨g,0,none⟩) 2 c] w fun e w'=>∃ A' m c',e=.returned (.slice A' m c')∧m≤1000000000∧RdI w' A' m (l1 ++l2)∧m≤c'∧c'≤9223372036854775807∧(∀ g,g<w.heap.size→Qaa A'≠some g)∧Bw w w':=by
 have hR:RdT w (some ⟨g,0,none⟩) 2 [l1,l2]:=⟨rfl,fun i l hl=>by
  match i,hl with
  | 0,hl=>cases hl;exact ⟨g,0,A1,n1,c1,rfl,Zq hB,h1,b1,m1⟩
  | 1,hl=>cases hl;exact ⟨g,0,A2,n2,c2,rfl,Zq hB,h2,b2,m2⟩
  | i+2,hl=>simp at hl⟩
 have e:[l1,l2].flatten=l1 ++l2:=Sm
 have l1':=h1.1;have l2':=h2.1;have hc:=Qkw (some ⟨g,0,none⟩) 2 c [l1,l2] w hR Oo (by rw [e,Yp];omega);refine hc.mono ?_;rintro e' w' ⟨A',c',rfl,g1,g2,g3,g4,g5⟩;rw [e] at g1;refine ⟨A',_,c',rfl,by rw [e,Yp];omega,?_,g2,g3,g4,g5⟩;rw [e];exact g1
open Go.Lib Go.Shelf Go.Sort
theorem Qcg {α:Type}[Inhabited α](enc:α→Value)(w:World)(g:Nat)(d:Array α)(n:Nat)(os:Array Obj):w.grownBy (sortWorld enc w g 0 n d os) (some g) where
 os:=rfl
 tape:=rfl
 output:=rfl
 size:=by simp [sortWorld,putRow,mapBlock,Sort.ahead]
 block:=by
  intro k hk hne;have hne':k≠g:=fun e=>hne (by rw [e])
  have hlt:k<(putRow enc (Sort.ahead w n) g 0 d).heap.size:=by simpa [putRow,mapBlock,Sort.ahead] using hk
  unfold sortWorld;rw [heap_grow_old _ _ hlt];simp only [putRow,mapBlock,Array.getElem?_modify];rw [if_neg Oo]
  rfl
theorem Qdh {α:Type}[Inhabited α](enc:α→Value)(w:World)(g B:Nat)(d:Array α)(n:Nat)(os:Array Obj)(hg:B≤g)(hB:B≤w.heap.size):RowKit.Below B w (sortWorld enc w g 0 n d os) :=
 (RowKit.Below.refl B w).grown (Qcg enc w g d n os) hB fun k hk=>by cases hk;exact hg
theorem Reh {α:Type}[Inhabited α](enc:α→Value)(w:World)(g t:Nat)(c:Array Value)(d:Array α)(n:Nat)(os:Array Obj)(h:Blk w g t c) :
 ∃ c',Blk (sortWorld enc w g 0 n d os) g t c'∧c'.size=c.size∧∀ k,k<c.size→c'[k]?=if k<d.size then some (enc d[k]!) else c[k]?:=by have hlt:g<(putRow enc (Sort.ahead w n) g 0 d).heap.size:=by{have:=h.lt;simpa [putRow,mapBlock,Sort.ahead] using this};have hb:(Sort.ahead w n).heap[g]?=some (.cells c t (0,0)):=h;refine ⟨putCells enc 0 d c,?_,by simp [putCells],fun k hk=>?_⟩;{unfold Blk sortWorld;rw [heap_grow_old _ _ hlt];simp only [putRow,mapBlock,Array.getElem?_modify,hb,if_true,Option.map_some,onCells]};{simp only [putCells,Array.getElem?_mapIdx,Array.getElem?_eq_getElem hk,Option.map_some];(by_cases h1:k<d.size);{rw [if_pos ⟨Oo,Oo⟩,if_pos h1,Nat.sub_zero]};{rw [if_neg Oo,if_neg h1]}}
def Rts (W:World)(g N:Nat) (rs:Lz):Prop :=
 rs.length≤N∧∃ cs,Blk W g 64 cs∧cs.size=N∧∀ (j:Nat) (l:Iz),rs[j]?=some l→∃ A n c,cs[j]?=some (.slice A n c)∧RdI W A n l∧Qaa A≠some g∧n≤c∧c≤9223372036854775807
theorem Rts.rdT {W:World}{g N:Nat} {rs:Lz} (h:Rts W g N rs):RdT W (some ⟨g,0,none⟩) rs.length rs:=by obtain ⟨_,cs,hb,_,hr⟩:=h;refine ⟨rfl,fun i l hl=>?_⟩;obtain ⟨A,n,c,h1,h2,_,h4,h5⟩:=hr i l hl;exact ⟨g,0,A,n,c,rfl,by rw [Yz,hb.cell];exact h1,h2,h4,h5⟩
theorem Rts.below {W W':World}{g N:Nat} {rs:Lz} (h:Rts W g N rs) (hb:RowKit.Below W.heap.size W W'):Rts W' g N rs:=by obtain ⟨h0,cs,h1,h2,hr⟩:=h;refine ⟨h0,cs,h1.below hb h1.lt,h2,fun j l hl=>?_⟩;obtain ⟨A,n,c,g1,g2,g3,g4,g5⟩:=hr j l hl;exact ⟨A,n,c,g1,g2.below hb,g3,g4,g5⟩
theorem Rts.lt {W:World}{g N:Nat} {rs:Lz} (h:Rts W g N rs):g<W.heap.size:=by obtain ⟨_,cs,h1,_⟩:=h;exact h1.lt
theorem Rts.set {W:World}{g N i:Nat} {rs:Lz} {l:Iz} {A:Oz} {n c:Nat} (h:Rts W g N rs) (hi:i<rs.length) (hA:RdI W A n l) (hne:Qaa A≠some g) (h4:n≤c) (h5:c≤9223372036854775807) :
 Rts (W.setCell ⟨g,i,none⟩ (.slice A n c)) g N (rs.set i l):=by obtain ⟨h0,cs,h1,h2,hr⟩:=h;have hgb:=Qac W g i (.slice A n c);refine ⟨by rw [Yq];exact h0,_,h1.set_ i (.slice A n c),by simpa using h2,fun j l' hl=>?_⟩;by_cases e:i=j;{subst e;rw [Yg hi] at hl;exact Kdn};{rw [Yh e] at hl;obtain ⟨A',n',c',g1,g2,g3,g4,g5⟩:=hr j l' hl;exact ⟨A',n',c',by rw [Array.getElem?_setIfInBounds_ne e];exact g1,g2.grown hgb g3,g3,g4,g5⟩}
instance inhV1:Inhabited {v:Value // v.oneCell'=true}:=⟨⟨.int .i64 0,rfl⟩⟩
theorem Rfq:∃ i,Tryz.prog.info? 64=some i∧i.size=1:=by
 have h:(Tryz.prog.info? 64).map (·.size)=some 1:=Kf
 obtain ⟨i,h1,h2⟩:=Option.map_eq_some_iff.1 h;exact ⟨i,h1,h2⟩
theorem infoR:(Tryz.prog.info? 64).map (fun i=>(i.zero,i.size,i.bytes))=some (some (.slice none 0 0),1,24):=Kf
theorem Qkc {α:Type}{p:Nat→α→Prop}:∀ (n:Nat),(∀ i,i<n→∃ a,p i a)→∃ l:List α,l.length=n∧∀ (i:Nat) a,l[i]?=some a→p i a
 | 0,_=>⟨[],rfl,fun i a h=>by simp at h⟩
 | n+1,h=>by
  obtain ⟨l,hl,hp⟩:=Qkc n (fun i hi=>h i Oo);obtain ⟨a,ha⟩:=h n Oo;refine ⟨l ++[a],by simp [hl],fun i b hb=>?_⟩;rcases Nat.lt_or_ge i n with h1|h1
  {rw [Yc Oo] at hb;exact hp i b hb};{rw [Yb Oo,hl] at hb;have:i=n:=by{(rcases Nat.lt_or_ge (i-n) 1 with h2|h2);{omega};{rw [Yd (by simpa using h2)] at hb;cases hb}};subst this;simp at hb;subst hb;exact ha}
theorem Rio (w:World):(zeroValue 64).run prog w=.ok (.slice none 0 0) w:=Kf
theorem Rts.vals {w:World}{g N:Nat} {rs:Lz} (h:Rts w g N rs):∃ (cs:Array Value) (dl:List {v:Value // v.oneCell'=true}),Blk w g 64 cs∧cs.size=N∧dl.length=rs.length∧(∀ (j:Nat) v,dl[j]?=some v→cs[j]?=some v.val) ∧
 ∀ (j:Nat) (l:Iz) v,rs[j]?=some l→dl[j]?=some v→∃ A n c,v.val=.slice A n c∧RdI w A n l∧Qaa A≠some g∧n≤c∧c≤9223372036854775807:=by
 obtain ⟨h0,cs,h1,h2,hr⟩:=h
 obtain ⟨dl,hdl,hdp⟩:=Qkc (p:=fun j (v:{v:Value // v.oneCell'=true})=>cs[j]?=some v.val) rs.length (fun j hj=>by
  obtain ⟨A,n,c,g1,_⟩:=hr j _ (Zg hj);exact ⟨⟨.slice A n c,rfl⟩,g1⟩)
 refine ⟨cs,dl,h1,h2,hdl,hdp,fun j l v hl hv=>?_⟩;obtain ⟨A,n,c,g1,g2,g3,g4,g5⟩:=hr j l hl;have:=hdp j v hv;rw [g1] at this;exact ⟨A,n,c,(Yv this).symm,g2,g3,g4,g5⟩
theorem Rts.put {α:Type}[Inhabited α](enc:α→Value){w:World}{g N:Nat} {rs':Lz} {cs:Array Value} {d:List α} (hb:Blk w g 64 cs) (hs:cs.size=N) (hN:d.length≤N) (hle:rs'.length≤d.length) (q:Nat) (os:Array Obj)
 (hd:∀ (j:Nat) (l:Iz),rs'[j]?=some l→∃ v A n c,d[j]?=some v∧enc v=.slice A n c∧RdI w A n l∧Qaa A≠some g∧n≤c∧c≤9223372036854775807) :
 Rts (sortWorld enc w g 0 q d.toArray os) g N rs':=by obtain ⟨c',h1,h2,h3⟩:=Reh enc w g 64 cs d.toArray q os hb;refine ⟨Oo,c',h1,Oo,fun j l hl=>?_⟩;have hj:=(Zs hl).1;obtain ⟨v,A,n,c,g0,g1,g2,g3,g4,g5⟩:=hd j l hl;refine ⟨A,n,c,?_,g2.grown (Qcg _ w g _ q os) g3,g3,g4,g5⟩;rw [h3 j Oo,if_pos (by simpa using (show j<d.length by omega)),getElem!_pos d.toArray j (by simpa using (show j<d.length by omega))];have:=(Zs g0).2;simp only [List.getElem_toArray,this,g1]
theorem Rbr (g N B i:Nat) (rs:Lz) (w:World) (h:Rts w g N rs) (hi:i<rs.length) (hN:N≤1000000000) (hB:B≤g) :
 Calls prog 87 #[.slice (some ⟨g,0,none⟩) rs.length N,.int .i64 i,.int .i64 ((i:Int)+1)] w fun e w'=>e=.returned (.slice (some ⟨g,0,none⟩) (rs.length-1) N)∧Rts w' g N (rs.eraseIdx i)∧w.grownBy w' (some g)∧RowKit.Below B w w':=by
 have h0:=h.1;have hlt:=h.lt;obtain ⟨cs,dl,hb,hs,hdl,hdc,hdv⟩:=h.vals;obtain ⟨i0,hi0,hz1⟩:=Rfq
 have hH:Holds (fun v:{v:Value // v.oneCell'=true}=>v.val) w g 0 dl.toArray:=fun j hj=>by
  have hj':j<dl.length:=by simpa using hj
  rw [Yz,hb.cell,getElem!_pos dl.toArray j hj];exact ⟨by simpa using hdc j _ (Zg hj'),hb.frozen j⟩
 have hcon:=AnyE.slices_Delete delRow (fun v:{v:Value // v.oneCell'=true}=>v.val) (fun v=>v.property) ⟨.slice none 0 0,rfl⟩ Rio i0 hi0 hz1 g 0 N i (i+1) dl.toArray w hH (by simp;omega) Oo Oo (by simp;omega);rw [show dl.toArray.size=rs.length by simpa using hdl] at hcon;refine Calls.mono (show Calls prog 87 _ _ _ from hcon) ?_;rintro e w' ⟨rfl,q,rfl⟩;have hw:putRow (fun v:{v:Value // v.oneCell'=true}=>v.val) (Sort.ahead w q) g 0 (dl.toArray.toList.take i ++dl.toArray.toList.drop (i+1) ++List.replicate (i+1-i) (⟨.slice none 0 0,rfl⟩:{v:Value // v.oneCell'=true})).toArray=sortWorld (fun v:{v:Value // v.oneCell'=true}=>v.val) w g 0 q (dl.eraseIdx i ++[(⟨.slice none 0 0,rfl⟩:{v:Value // v.oneCell'=true})]).toArray #[]:=by{exact Kdz};rw [hw];have hle:(rs.eraseIdx i).length=rs.length-1:=by rw [List.length_eraseIdx,if_pos hi]
 have hle2:(dl.eraseIdx i).length=rs.length-1:=by rw [List.length_eraseIdx,if_pos Oo,hdl]
 refine ⟨by rw [show i+1-i=1 by omega],Rts.put _ hb hs (by simp [hle2];omega) (by simp [hle,hle2]) q #[] (fun j l hl=>?_),Qcg _ w g _ q #[],Qdh _ w g B _ q #[] hB Oo⟩;have hj:=(Zs hl).1;rw [hle] at hj;obtain ⟨j',hj',e1,e2⟩:∃ j',j'<rs.length∧rs[j']?=some l∧(dl.eraseIdx i)[j]?=dl[j']?:=by{exact Kca};have e3:dl[j']?=some dl[j']:=Zg Oo;obtain ⟨A,n,c,g1,g2,g3,g4,g5⟩:=hdv j' l _ e1 e3;exact ⟨_,A,n,c,by rw [Yc Oo,e2,e3],g1,g2,g3,g4,g5⟩
