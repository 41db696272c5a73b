/- Parts of the proof: Nt4, Nt5, Nt6, Nt7, Nt8, Nt9. -/
import Derived.Test.YtdheeddnkdhfeaaGreatDoorA2
namespace Go.Proofs.YtdheeddnkdhfeaaGreatDoor
open Go.RowKit Go.Proofs.Tryz
attribute [local go_sem ↓] Go.wp_at_zero Go.wp_at_succ
set_option maxHeartbeats 1000000 in
theorem Qim (A:Option Addr)(n c:Nat)(t:Qfv)(w:World)(h:RdI w A n t.costs)(hn:n≤9223372036854775807) :
 Calls prog 170 #[.agg #[.int .i64 t.ins,.int .i64 t.outs,.slice A n c]] w fun e w'=>Qda (Qnr t) w.heap.size e w'∧Below w.heap.size w w':=by
 obtain ⟨i,o,cs⟩:=t;have h:RdI w A n cs:=h;simp only
 by_cases i0:i<0
 · go_enter func170,ntmps170
   go_wp2_with fail
   (refine Qae ?_;intro w5 hw5)
   have hB5:Blk w5 (w.heap.size+1) 66 #[.slice none 0 0,.int .i64 0]:=by rw [hw5];exact Qbh
   have hb5:Below w.heap.size w w5:=by rw [hw5];exact Qah
   exact Kag
 by_cases i1:i > 16
 · go_enter func170,ntmps170
   go_wp2_with fail
   (refine Qae ?_;intro w5 hw5)
   have hB5:Blk w5 (w.heap.size+1) 66 #[.slice none 0 0,.int .i64 0]:=by rw [hw5];exact Qbh
   have hb5:Below w.heap.size w w5:=by rw [hw5];exact Qah
   exact Kag
 by_cases o0:o<0
 · go_enter func170,ntmps170
   go_wp2_with fail
   (refine Qae ?_;intro w5 hw5)
   have hB5:Blk w5 (w.heap.size+1) 66 #[.slice none 0 0,.int .i64 0]:=by rw [hw5];exact Qbh
   have hb5:Below w.heap.size w w5:=by rw [hw5];exact Qah
   exact Kag
 by_cases o1:o > 16
 · go_enter func170,ntmps170
   go_wp2_with fail
   (refine Qae ?_;intro w5 hw5)
   have hB5:Blk w5 (w.heap.size+1) 66 #[.slice none 0 0,.int .i64 0]:=by rw [hw5];exact Qbh
   have hb5:Below w.heap.size w w5:=by rw [hw5];exact Qah
   exact Kag
 have hm:=Qnv (a:=i) (b:=o) (by omega) (by omega) (by omega) (by omega);have j1:IntKind.i64.wrap (i*o)=i*o:=IntWalk.i64_in _ (by omega)
 by_cases hl:(n:Int)=i*o
 rotate_left
 · have j2:((n:Int) != i*o)=true:=by simpa using hl
   have j3:((n:Int) == i*o)=false:=by simpa using hl
   clear hl
   go_enter func170,ntmps170
   go_wp2_with fail
   (refine Qae ?_;intro w5 hw5)
   have hB5:Blk w5 (w.heap.size+1) 66 #[.slice none 0 0,.int .i64 0]:=by rw [hw5];exact Qbh
   have hb5:Below w.heap.size w w5:=by rw [hw5];exact Qah
   clear hw5;with_reducible refine (Qav _ _ _ _).mono ?_
   rintro e w2 ⟨⟨A4,n4,m4,rfl,hg4⟩,hb⟩;have hB2:=Blk.below hB5 hb hB5.lt;obtain ⟨c0,c1,f0,f1⟩:=hB2.two;have hb2:Below w.heap.size w w2:=Zb hb5 hb
   go_wp2_with fail
   refine bodyPost_ret (v:=.agg #[.slice A4 n4 m4,.int .i64 9]) (by simp [results,results170,go_sem,c0,c1]) rfl ?_
   exact Kad
 have j2:((n:Int) != i*o)=false:=by simpa using hl
 have j3:((n:Int) == i*o)=true:=by simpa using hl
 have hn:n≤256:=by omega
 have HL:=Zh hl;clear hl
 go_enter func170,ntmps170
 go_wp2_with fail
 (refine Qai ?_;intro w1 hw1)
 have hb1:Below w.heap.size w w1:=by rw [hw1];exact Qah
 have hT1:Blk w1 w.heap.size 122 #[.int .i64 i,.int .i64 o,.slice A n c]:=by rw [hw1];exact Qbh
 have hB1:Blk w1 (w.heap.size+1) 66 #[.slice none 0 0,.int .i64 0]:=by rw [hw1];exact Qbh
 clear hw1
 go_loopw [3] (fun q W=>∃ k:Nat,k≤n∧q=.int .i64 k∧Below w.heap.size w W∧Blk W w.heap.size 122 #[.int .i64 i,.int .i64 o,.slice A n c]∧Blk W (w.heap.size+1) 66 #[.slice none 0 0,.int .i64 0]∧∀ j x,j<k→cs[j]?=some x→wOk x=true) (fun q _=>n-(intOf q).toNat)
 case atStart=>exact ⟨0,Nat.zero_le _,rfl,hb1,hT1,hB1,fun _ _ h=>absurd h (Nat.not_lt_zero _)⟩
 case round =>
  clear hb1 hT1 hB1;obtain ⟨k,hk,rfl,hbl,hT,hB,hall⟩:=hrel;have HA:=Zh hall;clear hall;obtain ⟨t0,t1,t2⟩:=hT.three;have zT:=hT.lt
  by_cases hlt:k<n
  · obtain ⟨b,oo,x,rfl,hx,hc⟩:=(h.below hbl).at_ hlt
    have i2:(0:Int)≤(k:Int):=by omega
    have i3:(k:Int)<(n:Int):=by omega
    have HX:=Zh hx;clear hx
    cases hw:wOk x
    · have HW:=Zh (show ∀ V,Calls prog 91 #[.int .i64 x] V fun e w'=>e=.returned (.bool false)∧V=w' from fun V=>by
       have:=Qfl x V;rw [hw] at this;exact this)
      go_wp2_with fail
      with_reducible refine (HW.out _).mono ?_
      rintro e w' ⟨rfl,rfl⟩
      go_wp2_with fail
      (refine Qae ?_;intro w5 hw5)
      have hB5:Blk w5 (w.heap.size+1) 66 #[.slice none 0 0,.int .i64 0]:=by rw [hw5];exact Qbh
      have hb5:Below w.heap.size w w5:=by rw [hw5];exact Qah
      clear hw5;with_reducible refine (Qav _ _ _ _).mono ?_
      rintro e w2 ⟨⟨A4,n4,m4,rfl,hg4⟩,hb⟩;have hB2:=Blk.below hB5 hb hB5.lt;obtain ⟨c0,c1,f0,f1⟩:=hB2.two;have hb2:Below w.heap.size w w2:=Zb hb5 hb
      go_wp2_with fail
      refine bodyPost_ret (v:=.agg #[.slice A4 n4 m4,.int .i64 8]) (by simp [results,results170,go_sem,c0,c1]) rfl ?_
      first | exact ⟨Qbw.no (by decide),Qah⟩ | exact ⟨Qda.no (Wg.mono (B:=w5.heap.size) (Wg.setCell (Wg.setCell hg4 hB5.lt _) hB5.lt _) hb5.size) (by decide),Qah⟩
    · have HW:=Zh (show ∀ V,Calls prog 91 #[.int .i64 x] V fun e w'=>e=.returned (.bool true)∧V=w' from fun V=>by
       have:=Qfl x V;rw [hw] at this;exact this)
      have HW2:=Zh hw;clear hw
      go_wp2_with fail
      with_reducible refine (HW.out _).mono ?_
      rintro e w' ⟨rfl,rfl⟩
      go_wp2_with fail
      go_roundw
      case rel =>
       refine ⟨k+1,by omega,by go_num,hbl,hT,hB,fun j y hj hy=>?_⟩
       by_cases e:j=k
       · subst e
         rw [HX.out] at hy
         cases hy
         exact HW2.out
       · exact HA.out j y (by omega) hy
      case measure=>simp [intOf];omega
  · obtain rfl:k=n:=by omega
    have zB:=hB.lt;obtain ⟨c0,c1,f0,f1⟩:=hB.two
    go_wp2_with fail
    refine bodyPost_ret (v:=.agg #[.slice none 0 0,.int .i64 0]) (by simp [results,results170,go_sem,c0,c1]) rfl ?_;refine ⟨⟨_,_,_,_,rfl,Wg.none _ _,.inl ⟨rfl,⟨by simp only;omega,by simp only;omega,by simp only;omega,by simp only;omega,?_,?_⟩⟩⟩,Qah⟩
    · simp only
      rw [h.1];exact HL.out
    · intro y hy
      obtain ⟨j,hj⟩:=Yr hy;exact HA.out j y (by rw [←h.1];exact (Zs hj).1) hj
theorem infoPart:(Tryz.prog.info? 152).map (fun i=>(i.zero,i.size,i.bytes))=some (some (.agg #[.string ⟨#[]⟩,.int .i64 0]),2,24):=by kernel_rfl
set_option maxHeartbeats 1000000 in
theorem Qnd (s:ByteArray)(at_:Int)(A:Option Addr)(k c B:Nat)(x:Int)(w:World)(hx:x≠0)(hg:Wg B w A k c) :
 Calls prog 97 #[.string s,.int .i64 at_,.agg #[.slice A k c,.int .i64 x]] w fun e w'=>(∃ A' k' c',e=.returned (.agg #[.slice A' k' c',.int .i64 x]))∧Below w.heap.size w w':=by
 obtain ⟨xs,ho,hone,hk⟩:=hg;have hr:=ho.rds;have HR:=Zh hr;have HO:=Zh hone;clear ho hone hr
 go_enter func97,ntmps97
 go_wp2_with fail
 (refine Qai ?_;intro w1 hw1)
 have hb1:Below w.heap.size w w1:=by rw [hw1];exact Qah
 have hT1:Blk w1 w.heap.size 66 #[.slice A k c,.int .i64 x]:=by rw [hw1];exact Qbh
 have hB1:Blk w1 (w.heap.size+1) 66 #[.slice none 0 0,.int .i64 0]:=by rw [hw1];exact Qbh
 have hz1:w1.heap.size=w.heap.size+1+1:=by rw [hw1];simp
 clear hw1;obtain ⟨t0,t1,_,_⟩:=hT1.two
 go_wp2_with fail
 have hb0:Below (w.heap.size+1) w1 w1.drew:=(Zr _ _).drew;have HSX:=Zh (show ∀ V,Below (w.heap.size+1) w1 V→V.cell? ⟨w.heap.size,0,none⟩=some (.slice A k c)∧V.cell? ⟨w.heap.size,1,none⟩=some (.int .i64 x) from fun V hV=>⟨(hV.cell (Nat.lt_succ_self _)).trans t0,(hV.cell (Nat.lt_succ_self _)).trans t1⟩)
 refine wp_region_held_drew (S:=fun V=>Below (w.heap.size+1) w1 V) (by kernel_rfl) hb0 (fun _=>?_);refine tz 0 11 ?_;refine tz 1 12 ?_;refine tz 2 13 ?_;refine tz 4 15 ?_;refine tz 5 16 ?_;refine tz 7 18 ?_;refine tz 8 19 ?_;refine Zk 3 (fun K hK=>?_);go_simp;obtain ⟨W,hW⟩:∃ W,W=(w1.alloc (.cells #[.string s,.int .i64 at_] 152)).drew:=⟨_,rfl⟩;rw [←hW]
 have hownW:Own W (w.heap.size+1+1) 152 2 (some ⟨w1.heap.size,0,none⟩) 1 1 [.string s,.int .i64 at_]:=by
  rw [hW];exact Own.drew (Own.lit w1 #[.string s,.int .i64 at_] 1 (by omega) (by omega) rfl)
 rw [hz1] at hownW;have hbW:Below (w.heap.size+1) w1 W:=by rw [hW];exact ((Zr _ _).alloc (by omega) _).drew
 have hB2:Blk W (w.heap.size+1) 66 #[.slice none 0 0,.int .i64 0]:=by rw [hW];exact Qne
 have hrW:Rds W 2 A k xs:=HR.out.below (hb1.trans (hbW.mono (by omega)));have hzW:w.heap.size+1+1≤W.heap.size:=by have:=hbW.size;omega
 have hbwW:Below w.heap.size w W:=hb1.trans (hbW.mono (by omega));clear hW;refine hK.out _ _ hbW (fun _=>?_);clear hK K;refine Zk 6 (fun K hK=>?_);with_reducible refine Qay (some 17) rfl rfl (.tmp 14) (.tmp 16) 64 rfl 152 _ 2 24 infoPart underlying64 rfl (by omega) rfl rfl hownW hrW HO.out (by omega) (by omega) hzW ?_
 intro A' c' w' hown' hg' _;have hb5:Below (w.heap.size+1) w1 w':=Zo hbW hg' (hownW.mono (by omega)) (by omega);have hb6:Below w.heap.size w w':=Zo hbwW hg' (hownW.mono (by omega)) (by omega);have hB':=hB2.grown hg' (hownW.ne (by omega));refine hK.out _ _ hb5 (fun _=>?_);clear hK K hownW hrW hg' hown';simp only [Act.put,Yi,Yj,Yk];obtain ⟨c0,c1,f0,f1⟩:=hB'.two;refine tz 9 20 ?_;refine Zk 10 (fun K hK=>?_);go_simp;refine hK.out _ _ ((hb5.setCell (by simp only;omega) _).setCell (by simp only;omega) _) (fun _=>?_);clear hK K;refine Zd ?_
 go_wp2_with fail
 refine bodyPost_ret (v:=.agg #[.slice A' (1+k) c',.int .i64 x]) (by simp [results,results97,go_sem,c0,c1]) rfl ?_;exact ⟨⟨_,_,_,rfl⟩,Qah⟩
set_option maxHeartbeats 6000000 in
set_option maxRecDepth 100000 in
theorem Qku (A B C:Option Addr)(n m k c d e:Nat)(N:Qam)(w:World)(h:Qce w A B C n m k N)(hn:n≤9223372036854775807)(hm:m≤9223372036854775807)(hk:k≤9223372036854775807) :
 Calls prog 134 #[.agg #[.slice A n c,.slice B m d,.slice C k e]] w fun e w'=>Qbw (Qap N) e∧Below w.heap.size w w':=by
 have HH:=Zh h;have HLV:=Zh h.1.1;have HLA:=Zh h.2.1.1;have HLT:=Zh h.2.2.1;clear h
 by_cases q0:(n:Int) > 4096
 · go_enter func134,ntmps134
   go_wp2_with fail
   (refine Qae ?_;intro w5 hw5)
   have hB5:Blk w5 (w.heap.size+1) 66 #[.slice none 0 0,.int .i64 0]:=by rw [hw5];exact Qbh
   have hb5:Below w.heap.size w w5:=by rw [hw5];exact Qah
   exact Kak
 by_cases q1:(m:Int) > 16384
 · go_enter func134,ntmps134
   go_wp2_with fail
   (refine Qae ?_;intro w5 hw5)
   have hB5:Blk w5 (w.heap.size+1) 66 #[.slice none 0 0,.int .i64 0]:=by rw [hw5];exact Qbh
   have hb5:Below w.heap.size w w5:=by rw [hw5];exact Qah
   exact Kak
 by_cases q2:(k:Int) > 256
 · go_enter func134,ntmps134
   go_wp2_with fail
   (refine Qae ?_;intro w5 hw5)
   have hB5:Blk w5 (w.heap.size+1) 66 #[.slice none 0 0,.int .i64 0]:=by rw [hw5];exact Qbh
   have hb5:Below w.heap.size w w5:=by rw [hw5];exact Qah
   exact Kak
 go_enter func134,ntmps134
 go_wp2_with fail
 (refine Qai ?_;intro w1 hw1)
 have hb1:Below w.heap.size w w1:=by rw [hw1];exact Qah
 have hN1:Blk w1 w.heap.size 26 #[.slice A n c,.slice B m d,.slice C k e]:=by rw [hw1];exact Qbh
 have hR1:Blk w1 (w.heap.size+1) 66 #[.slice none 0 0,.int .i64 0]:=by rw [hw1];exact Qbh
 clear hw1
 go_loopw [3] (fun q W=>∃ i:Nat,i≤k∧q=.int .i64 i∧Below w.heap.size w W∧Blk W w.heap.size 26 #[.slice A n c,.slice B m d,.slice C k e]∧Blk W (w.heap.size+1) 66 #[.slice none 0 0,.int .i64 0]∧∀ j t,j<i→N.ts[j]?=some t→Qnr t) (fun q _=>k-(intOf q).toNat)
 case atStart=>exact ⟨0,Nat.zero_le _,rfl,hb1,hN1,hR1,fun _ _ h=>absurd h (Nat.not_lt_zero _)⟩
 case round =>
  clear hb1 hN1 hR1;obtain ⟨i,hi,rfl,hbl,hNN,hRR,hall⟩:=hrel;have HA:=Zh hall;clear hall;obtain ⟨n0,n1,n2⟩:=hNN.three;have zN:=hNN.lt;have zR:=hRR.lt
  by_cases hlt:i<k
  · obtain ⟨b,o,t,rfl,ht,k0,k1,A',n',c',k2,hr,hc1,hc2⟩:=(HH.out.2.2.below hbl).at_ hlt
    have i1:(0:Int)≤(i:Int):=by omega
    have i2:(i:Int)<(k:Int):=by omega
    have HT:=Zh ht;clear ht;have HTC:=Zh (show Calls prog 170 #[.agg #[.int .i64 t.ins,.int .i64 t.outs,.slice A' n' c']] wr fun e w'=>Qda (Qnr t) wr.heap.size e w'∧Below wr.heap.size wr w' from Qim A' n' c' t wr hr (by omega))
    go_wp2_with fail
    with_reducible refine (HTC.out).mono ?_
    rintro e w2 ⟨⟨A4,k4,c4,x,rfl,hg4,hx⟩,hb2⟩;have hN2:=hNN.below hb2 hNN.lt;have hR2:=hRR.below hb2 hRR.lt;have hbl2:Below w.heap.size w w2:=Zb hbl hb2;clear n0 n1 n2 k0 k1 k2
    rcases hx with ⟨rfl,hT⟩|hx
    · have HT2:=Zh hT
      clear hT
      go_wp2_with fail
      go_roundw
      case rel =>
       refine ⟨i+1,by omega,by go_num,Bel.alloc hbl2,hN2.alloc _,hR2.alloc _,fun j y hj hy=>?_⟩
       by_cases e:j=i
       · subst e
         rw [HT.out] at hy
         cases hy
         exact HT2.out
       · exact HA.out j y (by omega) hy
      case measure=>simp [intOf];omega
    · go_wp2_with fail
      (refine Qae ?_;intro w5 hw5)
      have hB5:Blk w5 (w.heap.size+1) 66 #[.slice none 0 0,.int .i64 0]:=by rw [hw5];exact Qbh
      have hb5:Below w.heap.size w w5:=by rw [hw5];exact Qah
      have hg5:Wg wr.heap.size w5 A4 k4 c4:=by rw [hw5];exact hg4.alloc _
      clear hw5;with_reducible refine (Qnd _ _ _ _ _ _ _ _ hx hg5).mono ?_
      rintro e w6 ⟨⟨A6,n6,m6,rfl⟩,hb6⟩;have hB6:=Blk.below hB5 hb6 hB5.lt;obtain ⟨c0,c1,f0,f1⟩:=hB6.two;have hb6':Below w.heap.size w w6:=Zb hb5 hb6
      go_wp2_with fail
      refine bodyPost_ret (v:=.agg #[.slice A6 n6 m6,.int .i64 x]) (by simp [results,results134,go_sem,c0,c1]) rfl ?_;exact ⟨Qbw.no hx,Qah⟩
  · obtain rfl:i=k:=by omega
    have HTA:=Zh (show ∀ t∈N.ts,Qnr t from fun t ht=>by
     obtain ⟨j,hj⟩:=Yr ht;exact HA.out j t (by rw [←HLT.out];exact (Zs hj).1) hj)
    clear HA;obtain ⟨w2,hw2⟩:∃ w2,w2=wr:=⟨_,rfl⟩;subst hw2
    go_wp2_with fail
    clear n0 n1 n2 zN zR hlt hi
    go_loopw [5] (fun q W=>∃ j:Nat,j≤n∧q=.int .i64 j∧Below w.heap.size w W∧Blk W w.heap.size 26 #[.slice A n c,.slice B m d,.slice C i e]∧Blk W (w.heap.size+1) 66 #[.slice none 0 0,.int .i64 0]∧∀ r v,r<j→N.vs[r]?=some v→Qye i v) (fun q _=>n-(intOf q).toNat)
    case atStart=>exact ⟨0,Nat.zero_le _,rfl,hbl,hNN,hRR,fun _ _ h=>absurd h (Nat.not_lt_zero _)⟩
    case round =>
     clear hbl hNN hRR;obtain ⟨j,hj,rfl,hbl,hNN,hRR,hall⟩:=hrel;have HA:=Zh hall;clear hall;obtain ⟨n0,n1,n2⟩:=hNN.three;have zN:=hNN.lt;have zR:=hRR.lt
     by_cases hlt:j<n
     · obtain ⟨b,o,x,y,z,rfl,hx,cx,cy,cz⟩:=(HH.out.1.below hbl).at_ hlt
       have i1:(0:Int)≤(j:Int):=by omega
       have i2:(j:Int)<(n:Int):=by omega
       have HX:=Zh hx;clear hx;have HF1:=Zh (show ∀ V,Calls prog 171 #[.int .i64 x] V fun e w'=>e=.returned (.bool (Qgp x))∧V=w' from fun V=>Qoz x V)
       have HF2:=Zh (show ∀ V,Calls prog 171 #[.int .i64 y] V fun e w'=>e=.returned (.bool (Qgp y))∧V=w' from fun V=>Qoz y V)
       cases e1:Qgp x
       · rw [e1] at HF1
         go_wp2_with fail
         with_reducible refine (HF1.out _).mono ?_
         rintro e w' ⟨rfl,rfl⟩
         go_wp2_with fail
         (refine Qae ?_;intro w5 hw5)
         have hB5:Blk w5 (w.heap.size+1) 66 #[.slice none 0 0,.int .i64 0]:=by rw [hw5];exact Qbh
         have hb5:Below w.heap.size w w5:=by rw [hw5];exact Qah
         exact Kau
       cases e2:Qgp y
       · rw [e1] at HF1
         rw [e2] at HF2;have HE:=Zh e1;clear e1
         go_wp2_with fail
         with_reducible refine (HF1.out _).mono ?_
         rintro e w' ⟨rfl,rfl⟩
         go_wp2_with fail
         with_reducible refine (HF2.out _).mono ?_
         rintro e w' ⟨rfl,rfl⟩
         go_wp2_with fail
         (refine Qae ?_;intro w5 hw5)
         have hB5:Blk w5 (w.heap.size+1) 66 #[.slice none 0 0,.int .i64 0]:=by rw [hw5];exact Qbh
         have hb5:Below w.heap.size w w5:=by rw [hw5];exact Qah
         exact Kau
       rw [e1] at HF1;rw [e2] at HF2;have HE1:=Zh e1;have HE2:=Zh e2;clear e1 e2
       go_wp2_with fail
       with_reducible refine (HF1.out _).mono ?_
       rintro e w' ⟨rfl,rfl⟩
       go_wp2_with fail
       with_reducible refine (HF2.out _).mono ?_
       rintro e w' ⟨rfl,rfl⟩
       by_cases z0:z<0
       ·
        go_wp2_with fail
        (refine Qae ?_;intro w5 hw5)
        have hB5:Blk w5 (w.heap.size+1) 66 #[.slice none 0 0,.int .i64 0]:=by rw [hw5];exact Qbh
        have hb5:Below w.heap.size w w5:=by rw [hw5];exact Qah
        clear hw5;with_reducible refine (Qav _ _ _ _).mono ?_
        rintro e w2 ⟨⟨A4,n4,m4,rfl,hg4⟩,hb⟩;have hB2:=Blk.below hB5 hb hB5.lt;obtain ⟨c0,c1,f0,f1⟩:=hB2.two;have hb2:Below w.heap.size w w2:=Zb hb5 hb
        go_wp2_with fail
        refine bodyPost_ret (v:=.agg #[.slice A4 n4 m4,.int .i64 5]) (by simp [results,results134,go_sem,c0,c1]) rfl ?_
        first | exact ⟨Qbw.no (by decide),Qah⟩ | exact ⟨Qda.no (Wg.mono (B:=w5.heap.size) (Wg.setCell (Wg.setCell hg4 hB5.lt _) hB5.lt _) hb5.size) (by decide),Qah⟩
       by_cases z1:z ≥ (i:Int)
       ·
        go_wp2_with fail
        (refine Qae ?_;intro w5 hw5)
        have hB5:Blk w5 (w.heap.size+1) 66 #[.slice none 0 0,.int .i64 0]:=by rw [hw5];exact Qbh
        have hb5:Below w.heap.size w w5:=by rw [hw5];exact Qah
        clear hw5;with_reducible refine (Qav _ _ _ _).mono ?_
        rintro e w2 ⟨⟨A4,n4,m4,rfl,hg4⟩,hb⟩;have hB2:=Blk.below hB5 hb hB5.lt;obtain ⟨c0,c1,f0,f1⟩:=hB2.two;have hb2:Below w.heap.size w w2:=Zb hb5 hb
        go_wp2_with fail
        refine bodyPost_ret (v:=.agg #[.slice A4 n4 m4,.int .i64 5]) (by simp [results,results134,go_sem,c0,c1]) rfl ?_
        first | exact ⟨Qbw.no (by decide),Qah⟩ | exact ⟨Qda.no (Wg.mono (B:=w5.heap.size) (Wg.setCell (Wg.setCell hg4 hB5.lt _) hB5.lt _) hb5.size) (by decide),Qah⟩
       go_wp2_with fail
       go_roundw
       case rel =>
        refine ⟨j+1,by omega,by go_num,Bel.alloc hbl,hNN.alloc _,hRR.alloc _,fun r v hr hv=>?_⟩
        by_cases e:r=j
        · subst e
          rw [HX.out] at hv
          cases hv
          exact ⟨HE1.out,HE2.out,by simp only;omega,by simp only;omega⟩
        · exact HA.out r v (by omega) hv
       case measure=>simp [intOf];omega
     · obtain rfl:j=n:=by omega
       have HVA:=Zh (show ∀ v∈N.vs,Qye i v from fun v hv=>by
        obtain ⟨r,hr⟩:=Yr hv;exact HA.out r v (by rw [←HLV.out];exact (Zs hr).1) hr)
       clear HA;obtain ⟨w3,hw3⟩:∃ w3,w3=wr:=⟨_,rfl⟩;subst hw3;have hmk:=Qde j (by omega)
       go_wp2_with fail
       (refine Qai ?_;intro w4 hw4)
       have hb4:Below w.heap.size w w4:=by rw [hw4];exact Qah
       have hN4:Blk w4 w.heap.size 26 #[.slice A j c,.slice B m d,.slice C i e]:=by rw [hw4];exact Qne
       have hR4:Blk w4 (w.heap.size+1) 66 #[.slice none 0 0,.int .i64 0]:=by rw [hw4];exact Qne
       have hI4:Blk w4 w3.heap.size 3 (Qbp (.int .i64 0) j):=by rw [hw4];exact Qbh
       have hO4:Blk w4 (w3.heap.size+1) 3 (Qbp (.int .i64 0) j):=by rw [hw4];exact Qbh
       obtain ⟨g,hg⟩:∃ g,g=w3.heap.size:=⟨_,rfl⟩;rw [←hg] at hI4 hO4 zR;rw [←hg];clear hw4 hmk n0 n1 n2 zN hbl hNN hRR hj hlt hg
       go_loopw [9] (fun q W=>∃ r:Nat,r≤m∧q=.int .i64 r∧Below w.heap.size w W∧Blk W w.heap.size 26 #[.slice A j c,.slice B m d,.slice C i e]∧Blk W (w.heap.size+1) 66 #[.slice none 0 0,.int .i64 0]∧Blk W g 3 (Qcj (Qrn (·.2.1) (N.ar.take r) j))∧Blk W (g+1) 3 (Qcj (Qrn (·.1) (N.ar.take r) j))∧∀ p a,p<r→N.ar[p]?=some a→ArcOk j a) (fun q _=>m-(intOf q).toNat)
       case atStart=>exact ⟨0,Nat.zero_le _,rfl,hb4,hN4,hR4,by rw [List.take_zero,Qhk];exact hI4,by rw [List.take_zero,Qhk];exact hO4,fun _ _ h=>absurd h (Nat.not_lt_zero _)⟩
       case round =>
        clear hb4 hN4 hR4 hI4 hO4;obtain ⟨r,hr,rfl,hbl,hNN,hRR,hI,hO,hall⟩:=hrel;have HA:=Zh hall;clear hall;obtain ⟨n0,n1,n2⟩:=hNN.three;have zN:=hNN.lt;have zI:=hI.lt;have zO:=hO.lt
        by_cases hlt:r<m
        · obtain ⟨b,o,x,y,z,rfl,hx,cx,cy,cz⟩:=(HH.out.2.1.below hbl).at_ hlt
          have i1:(0:Int)≤(r:Int):=by omega
          have i2:(r:Int)<(m:Int):=by omega
          have HX:=Zh hx;clear hx
          by_cases x0:x<0
          ·
           go_wp2_with fail
           (refine Qae ?_;intro w5 hw5)
           have hB5:Blk w5 (w.heap.size+1) 66 #[.slice none 0 0,.int .i64 0]:=by rw [hw5];exact Qbh
           have hb5:Below w.heap.size w w5:=by rw [hw5];exact Qah
           clear hw5;with_reducible refine (Qav _ _ _ _).mono ?_
           rintro e w2 ⟨⟨A4,n4,m4,rfl,hg4⟩,hb⟩;have hB2:=Blk.below hB5 hb hB5.lt;obtain ⟨c0,c1,f0,f1⟩:=hB2.two;have hb2:Below w.heap.size w w2:=Zb hb5 hb
           go_wp2_with fail
           refine bodyPost_ret (v:=.agg #[.slice A4 n4 m4,.int .i64 5]) (by simp [results,results134,go_sem,c0,c1]) rfl ?_
           first | exact ⟨Qbw.no (by decide),Qah⟩ | exact ⟨Qda.no (Wg.mono (B:=w5.heap.size) (Wg.setCell (Wg.setCell hg4 hB5.lt _) hB5.lt _) hb5.size) (by decide),Qah⟩
          by_cases x1:x ≥ (j:Int)
          ·
           go_wp2_with fail
           (refine Qae ?_;intro w5 hw5)
           have hB5:Blk w5 (w.heap.size+1) 66 #[.slice none 0 0,.int .i64 0]:=by rw [hw5];exact Qbh
           have hb5:Below w.heap.size w w5:=by rw [hw5];exact Qah
           clear hw5;with_reducible refine (Qav _ _ _ _).mono ?_
           rintro e w2 ⟨⟨A4,n4,m4,rfl,hg4⟩,hb⟩;have hB2:=Blk.below hB5 hb hB5.lt;obtain ⟨c0,c1,f0,f1⟩:=hB2.two;have hb2:Below w.heap.size w w2:=Zb hb5 hb
           go_wp2_with fail
           refine bodyPost_ret (v:=.agg #[.slice A4 n4 m4,.int .i64 5]) (by simp [results,results134,go_sem,c0,c1]) rfl ?_
           first | exact ⟨Qbw.no (by decide),Qah⟩ | exact ⟨Qda.no (Wg.mono (B:=w5.heap.size) (Wg.setCell (Wg.setCell hg4 hB5.lt _) hB5.lt _) hb5.size) (by decide),Qah⟩
          by_cases y0:y<0
          ·
           go_wp2_with fail
           (refine Qae ?_;intro w5 hw5)
           have hB5:Blk w5 (w.heap.size+1) 66 #[.slice none 0 0,.int .i64 0]:=by rw [hw5];exact Qbh
           have hb5:Below w.heap.size w w5:=by rw [hw5];exact Qah
           clear hw5;with_reducible refine (Qav _ _ _ _).mono ?_
           rintro e w2 ⟨⟨A4,n4,m4,rfl,hg4⟩,hb⟩;have hB2:=Blk.below hB5 hb hB5.lt;obtain ⟨c0,c1,f0,f1⟩:=hB2.two;have hb2:Below w.heap.size w w2:=Zb hb5 hb
           go_wp2_with fail
           refine bodyPost_ret (v:=.agg #[.slice A4 n4 m4,.int .i64 5]) (by simp [results,results134,go_sem,c0,c1]) rfl ?_
           first | exact ⟨Qbw.no (by decide),Qah⟩ | exact ⟨Qda.no (Wg.mono (B:=w5.heap.size) (Wg.setCell (Wg.setCell hg4 hB5.lt _) hB5.lt _) hb5.size) (by decide),Qah⟩
          by_cases y1:y ≥ (j:Int)
          ·
           go_wp2_with fail
           (refine Qae ?_;intro w5 hw5)
           have hB5:Blk w5 (w.heap.size+1) 66 #[.slice none 0 0,.int .i64 0]:=by rw [hw5];exact Qbh
           have hb5:Below w.heap.size w w5:=by rw [hw5];exact Qah
           clear hw5;with_reducible refine (Qav _ _ _ _).mono ?_
           rintro e w2 ⟨⟨A4,n4,m4,rfl,hg4⟩,hb⟩;have hB2:=Blk.below hB5 hb hB5.lt;obtain ⟨c0,c1,f0,f1⟩:=hB2.two;have hb2:Below w.heap.size w w2:=Zb hb5 hb
           go_wp2_with fail
           refine bodyPost_ret (v:=.agg #[.slice A4 n4 m4,.int .i64 5]) (by simp [results,results134,go_sem,c0,c1]) rfl ?_
           first | exact ⟨Qbw.no (by decide),Qah⟩ | exact ⟨Qda.no (Wg.mono (B:=w5.heap.size) (Wg.setCell (Wg.setCell hg4 hB5.lt _) hB5.lt _) hb5.size) (by decide),Qah⟩
          have HF1:=Zh (show ∀ V,Calls prog 91 #[.int .i64 z] V fun e w'=>e=.returned (.bool (wOk z))∧V=w' from fun V=>Qfl z V)
          cases e1:wOk z
          · rw [e1] at HF1
            go_wp2_with fail
            with_reducible refine (HF1.out _).mono ?_
            rintro e w' ⟨rfl,rfl⟩
            go_wp2_with fail
            (refine Qae ?_;intro w5 hw5)
            have hB5:Blk w5 (w.heap.size+1) 66 #[.slice none 0 0,.int .i64 0]:=by rw [hw5];exact Qbh
            have hb5:Below w.heap.size w w5:=by rw [hw5];exact Qah
            clear hw5;with_reducible refine (Qav _ _ _ _).mono ?_
            rintro e w2 ⟨⟨A4,n4,m4,rfl,hg4⟩,hb⟩;have hB2:=Blk.below hB5 hb hB5.lt;obtain ⟨c0,c1,f0,f1⟩:=hB2.two;have hb2:Below w.heap.size w w2:=Zb hb5 hb
            go_wp2_with fail
            refine bodyPost_ret (v:=.agg #[.slice A4 n4 m4,.int .i64 8]) (by simp [results,results134,go_sem,c0,c1]) rfl ?_
            exact Kad
          rw [e1] at HF1;have HE1:=Zh e1;clear e1;obtain ⟨u,rfl⟩:∃ u:Nat,x=u:=⟨x.toNat,by omega⟩;obtain ⟨v,rfl⟩:∃ v:Nat,y=v:=⟨y.toNat,by omega⟩;have hu:u<j:=by omega
          have hvn:v<j:=by omega
          have HX1:=Zh (Qhu (f:=(·.2.1)) (n:=j) (v:=v) HX.out rfl hvn);have HX2:=Zh (Qhu (f:=(·.1)) (n:=j) (v:=u) HX.out rfl hu);have c1:=hI.cellI (Qdd (f:=(·.2.1)) (l:=N.ar.take r) hvn);have c2:=hO.cellI (Qdd (f:=(·.1)) (l:=N.ar.take r) hu);have d1:=Qkr (·.2.1) N.ar r v;have d2:=Qkr (·.1) N.ar r u;generalize (N.ar.take r).countP (fun a=>a.2.1 == (v:Int))=p at *;generalize (N.ar.take r).countP (fun a=>a.1 == (u:Int))=q at *;have f1:=hI.frozen v;have f2:=hO.frozen u;obtain ⟨W2,hW2⟩:∃ W2,W2=((wr.setCell ⟨g+1,u,none⟩ (.int .i64 ((q:Int)+1))).setCell ⟨g,v,none⟩ (.int .i64 ((p:Int)+1))).alloc (.cells #[.int .i64 u,.int .i64 v,.int .i64 z] 119):=⟨_,rfl⟩;have HW2:=Zh hW2;have hb2:Below w.heap.size w W2:=by rw [hW2];exact Bel.alloc ((hbl.setCell (by simp only;omega) _).setCell (by simp only;omega) _)
          have HN2:=Zh (show Blk W2 w.heap.size 26 #[.slice A j c,.slice (some ⟨b,o,none⟩) m d,.slice C i e] from by rw [hW2];exact Qne)
          have HR2:=Zh (show Blk W2 (w.heap.size+1) 66 #[.slice none 0 0,.int .i64 0] from by rw [hW2];exact Qne)
          have HI2:=Zh (show Blk W2 g 3 (Qcj (Qrn (·.2.1) (N.ar.take (r+1)) j)) from by
           rw [hW2];exact (Blk.setI (hI.far_ (by omega) _) HX1.out).alloc _)
          have HO2:=Zh (show Blk W2 (g+1) 3 (Qcj (Qrn (·.1) (N.ar.take (r+1)) j)) from by
           rw [hW2];exact ((hO.setI HX2.out).far_ (by omega) _).alloc _)
          clear hW2 hI hO hNN hRR
          go_wp2_with fail
          with_reducible refine (HF1.out _).mono ?_
          rintro e w' ⟨rfl,rfl⟩
          go_wp2_with fail
          rw [←HW2.out]
          go_roundw
          case rel =>
           refine ⟨r+1,by omega,by go_num,hb2,HN2.out,HR2.out,HI2.out,HO2.out,fun p' a hp ha=>?_⟩
           by_cases e:p'=r
           · subst e
             rw [HX.out] at ha
             cases ha
             exact ⟨by simp only;omega,by simp only;omega,by simp only;omega,by simp only;omega,HE1.out⟩
           · exact HA.out p' a (by omega) ha
          case measure=>simp [intOf];omega
        · obtain rfl:r=m:=by omega
          rw [Ye (by rw [HLA.out];exact Zn _)] at hI hO
          have HAA:=Zh (show ∀ a∈N.ar,ArcOk j a from fun a ha=>by
           obtain ⟨p,hp⟩:=Yr ha;exact HA.out p a (by rw [←HLA.out];exact (Zs hp).1) hp)
          clear HA;obtain ⟨w6,hw6⟩:∃ w6,w6=wr:=⟨_,rfl⟩;subst hw6
          go_wp2_with fail
          clear n0 n1 n2 hlt hr
          go_loopw [11] (fun q W=>∃ s:Nat,s≤j∧q=.int .i64 s∧Below w6.heap.size w6 W∧∀ (p:Nat) v t,p<s→N.vs[p]?=some v→N.ts[v.2.2.toNat]?=some t→(cntTo N.ar p:Int)=t.ins∧(cntFr N.ar p:Int)=t.outs) (fun q _=>j-(intOf q).toNat)
          case atStart=>exact ⟨0,Nat.zero_le _,rfl,Zr _ _,fun _ _ _ h=>absurd h (Nat.not_lt_zero _)⟩
          case round =>
           obtain ⟨s,hs,rfl,hb2,hall⟩:=hrel;have HA:=Zh hall;clear hall;have hNr:=hNN.below hb2 zN;have hRr:=hRR.below hb2 hRR.lt;have hIr:=hI.below hb2 zI;have hOr:=hO.below hb2 zO;have hblr:Below w.heap.size w wr:=Zb hbl hb2;obtain ⟨n0,n1,n2⟩:=hNr.three;have zr:=hb2.size
           by_cases hlt2:s<j
           · obtain ⟨b,o,x,y,z,rfl,hx,cx,cy,cz⟩:=(HH.out.1.below hblr).at_ hlt2
             have hok:=HVA.out _ (Zm hx);have t0:=hok.t0;have t1:=hok.t1;simp only at t0 t1;obtain ⟨u,rfl⟩:∃ u:Nat,z=u:=⟨z.toNat,by omega⟩;have hu:u<i:=by omega
             obtain ⟨b',o',t,rfl,htt,k0,k1,A',n',c',k2,_,_,_⟩:=(HH.out.2.2.below hblr).at_ hu;obtain ⟨ti,to_,tc⟩:=t;simp only at k0 k1;have HX:=Zh hx;have HTT:=Zh htt;have c1:=hIr.cellI (Qdd (f:=(·.2.1)) (l:=N.ar) hlt2);have c2:=hOr.cellI (Qdd (f:=(·.1)) (l:=N.ar) hlt2);obtain ⟨p,hp⟩:∃ p,p=N.ar.countP (fun a=>a.2.1 == (s:Int)):=⟨_,rfl⟩;obtain ⟨q,hq⟩:∃ q,q=N.ar.countP (fun a=>a.1 == (s:Int)):=⟨_,rfl⟩;rw [←hp] at c1;rw [←hq] at c2;have HP:=Zh hp;have HQ:=Zh hq
             have HSX:=Zh (show ∀ V,Below wr.heap.size wr V→V.cell? ⟨w.heap.size,0,none⟩=some (.slice (some ⟨b,o,none⟩) j c)∧V.cell? ⟨w.heap.size,2,none⟩=some (.slice (some ⟨b',o',none⟩) i e)∧V.cell? ⟨b,o+s*3+2,none⟩=some (.int .i64 u)∧V.cell? ⟨b',o'+u*3,none⟩=some (.int .i64 ti)∧V.cell? ⟨b',o'+u*3+1,none⟩=some (.int .i64 to_)∧V.cell? ⟨b',o'+u*3+2,none⟩=some (.slice A' n' c') from fun V hV =>
              ⟨Zc hV (Zn _) n0,Zc hV (Zn _) n2,Zc hV (Zn _) cz,Zc hV (Zn _) k0,Zc hV (Zn _) k1,Zc hV (Zn _) k2⟩)
             have i1:(0:Int)≤(s:Int):=by omega
             have i2:(s:Int)<(j:Int):=by omega
             have i3:(0:Int)≤(u:Int):=by omega
             have i4:(u:Int)<(i:Int):=by omega
             clear hx htt hok hp hq cx cy cz k0 k1 k2 n1
             go_wp2_with fail
             refine wp_region_held_drew (S:=fun V=>Below wr.heap.size wr V) (by kernel_rfl) (Zr _ _).drew (fun _=>?_);refine tz 0 160 ?_;refine tz 1 161 ?_;refine tz 2 162 ?_;refine tz 3 163 ?_;refine tz 4 164 ?_;refine tz 5 165 ?_;refine tz 6 166 ?_;refine tz 7 167 ?_;refine tz 8 168 ?_;refine tz 9 169 ?_;refine Zk 10 (fun K hK=>?_);go_simp;refine hK.out _ _ (by repeat (first|exact Zr _ _|apply Below.drew|apply Bel.alloc)) (fun _=>?_)
             clear hK K;refine Zk 11 (fun K hK=>?_);go_simp;obtain ⟨w7,hw7⟩:∃ w7,w7=(wr.alloc (.cells #[.int .i64 ti,.int .i64 to_,.slice A' n' c'] 122)).drew:=⟨_,rfl⟩;rw [←hw7];have hb7:Below wr.heap.size wr w7:=by rw [hw7];exact ((Zr _ _).alloc (Zn _) _).drew
             have hT7:Blk w7 wr.heap.size 122 #[.int .i64 ti,.int .i64 to_,.slice A' n' c']:=by rw [hw7];exact Qbh
             refine hK.out _ _ hb7 (fun _=>?_);clear hK K hw7;refine Zd ?_;have hR7:=hRr.below hb7 hRr.lt;have hbl7:Below w.heap.size w w7:=Zb hblr hb7;have c1':=Zc hb7 (Zn _) c1;have c2':=Zc hb7 (Zn _) c2;obtain ⟨e0,e1,_⟩:=hT7.three;clear c1 c2 n0 n2
             by_cases p16:(p:Int) > 16
             ·
              go_wp2_with fail
              (refine Qae ?_;intro w5 hw5)
              have hB5:Blk w5 (w.heap.size+1) 66 #[.slice none 0 0,.int .i64 0]:=by rw [hw5];exact Qbh
              have hb5:Below w.heap.size w w5:=by rw [hw5];exact Qah
              clear hw5;with_reducible refine (Qav _ _ _ _).mono ?_
              rintro e w2 ⟨⟨A4,n4,m4,rfl,hg4⟩,hb⟩;have hB2:=Blk.below hB5 hb hB5.lt;obtain ⟨c0,c1,f0,f1⟩:=hB2.two;have hb2:Below w.heap.size w w2:=Zb hb5 hb
              go_wp2_with fail
              refine bodyPost_ret (v:=.agg #[.slice A4 n4 m4,.int .i64 4]) (by simp [results,results134,go_sem,c0,c1]) rfl ?_
              first | exact ⟨Qbw.no (by decide),Qah⟩ | exact ⟨Qda.no (Wg.mono (B:=w5.heap.size) (Wg.setCell (Wg.setCell hg4 hB5.lt _) hB5.lt _) hb5.size) (by decide),Qah⟩
             by_cases q16:(q:Int) > 16
             ·
              go_wp2_with fail
              (refine Qae ?_;intro w5 hw5)
              have hB5:Blk w5 (w.heap.size+1) 66 #[.slice none 0 0,.int .i64 0]:=by rw [hw5];exact Qbh
              have hb5:Below w.heap.size w w5:=by rw [hw5];exact Qah
              clear hw5;with_reducible refine (Qav _ _ _ _).mono ?_
              rintro e w2 ⟨⟨A4,n4,m4,rfl,hg4⟩,hb⟩;have hB2:=Blk.below hB5 hb hB5.lt;obtain ⟨c0,c1,f0,f1⟩:=hB2.two;have hb2:Below w.heap.size w w2:=Zb hb5 hb
              go_wp2_with fail
              refine bodyPost_ret (v:=.agg #[.slice A4 n4 m4,.int .i64 4]) (by simp [results,results134,go_sem,c0,c1]) rfl ?_
              first | exact ⟨Qbw.no (by decide),Qah⟩ | exact ⟨Qda.no (Wg.mono (B:=w5.heap.size) (Wg.setCell (Wg.setCell hg4 hB5.lt _) hB5.lt _) hb5.size) (by decide),Qah⟩
             by_cases m1:(p:Int)=ti
             rotate_left
             · have d1:((p:Int) != ti)=true:=by simpa using m1
               have d2:((p:Int) == ti)=false:=by simpa using m1
               clear m1
               go_wp2_with fail
               go_quiet (fail)
               go_wp2_with fail
               (refine Qae ?_;intro w5 hw5)
               have hB5:Blk w5 (w.heap.size+1) 66 #[.slice none 0 0,.int .i64 0]:=by rw [hw5];exact Qbh
               have hb5:Below w.heap.size w w5:=by rw [hw5];exact Qah
               exact Kav
             subst m1;have d1:(((p:Nat):Int) != ((p:Nat):Int))=false:=by simp
             by_cases m2:(q:Int)=to_
             rotate_left
             · have d3:((q:Int) != to_)=true:=by simpa using m2
               have d4:((q:Int) == to_)=false:=by simpa using m2
               clear m2
               go_wp2_with fail
               go_quiet (fail)
               go_wp2_with fail
               (refine Qae ?_;intro w5 hw5)
               have hB5:Blk w5 (w.heap.size+1) 66 #[.slice none 0 0,.int .i64 0]:=by rw [hw5];exact Qbh
               have hb5:Below w.heap.size w w5:=by rw [hw5];exact Qah
               exact Kav
             subst m2;have d2:(((q:Nat):Int) != ((q:Nat):Int))=false:=by simp
             go_wp2_with fail
             go_quiet (fail)
             go_wp2_with fail
             go_roundw
             case rel =>
              refine ⟨s+1,by omega,by go_num,Qax (Zb hb2 hb7) _,fun p' v' t' hp' hv' ht'=>?_⟩
              by_cases e:p'=s
              · subst e
                rw [HX.out] at hv'
                cases hv'
                simp only [Yl] at ht';rw [HTT.out] at ht'
                cases ht'
                exact ⟨by rw [HP.out];rfl,by rw [HQ.out];rfl⟩
              · exact HA.out p' v' t' (by omega) hv' ht'
             case measure=>simp [intOf];omega
           · obtain rfl:s=j:=by omega
             obtain ⟨c0,c1,f0,f1⟩:=hRr.two
             go_wp2_with fail
             refine bodyPost_ret (v:=.agg #[.slice none 0 0,.int .i64 0]) (by simp [results,results134,go_sem,c0,c1]) rfl ?_;refine ⟨⟨_,_,_,_,rfl,.inl ⟨rfl,⟨by rw [HLV.out];omega,by rw [HLA.out];omega,by rw [HLT.out];omega,HTA.out,by rw [HLT.out];exact HVA.out,by rw [HLV.out];exact HAA.out,fun p v t hv ht=>?_⟩⟩⟩,Qah⟩;exact HA.out p v t (by rw [←HLV.out];exact (Zs hv).1) hv ht
def Qil (G:Prop)(e:Ending):Prop:=∃ b:Bool,e=.returned (.bool b)∧(b=true→G)
structure FewOk (N:Qam):Prop where
 v:N.vs.length≤80
 a:N.ar.length≤300
 t:N.ts.length≤80
 c:∀ t∈N.ts,t.costs.length≤300
set_option maxHeartbeats 1000000 in
theorem few_any (A B C:Option Addr)(n m k c d e:Nat)(N:Qam)(w:World)(h:Qce w A B C n m k N) :
 Calls prog 133 #[.agg #[.slice A n c,.slice B m d,.slice C k e]] w fun e w'=>Qil (FewOk N) e∧Below w.heap.size w w':=by
 have HH:=Zh h;have HLV:=Zh h.1.1;have HLA:=Zh h.2.1.1;have HLT:=Zh h.2.2.1;clear h
 by_cases q0:(n:Int) > 80
 · go_enter func133,ntmps133
   exact Kbe
 by_cases q1:(m:Int) > 300
 · go_enter func133,ntmps133
   exact Kbe
 by_cases q2:(k:Int) > 80
 · go_enter func133,ntmps133
   exact Kbe
 go_enter func133,ntmps133
 go_wp2_with fail
 (refine Qai ?_;intro w1 hw1)
 have hb1:Below w.heap.size w w1:=by rw [hw1];exact Qah
 have hN1:Blk w1 w.heap.size 26 #[.slice A n c,.slice B m d,.slice C k e]:=by rw [hw1];exact Blk.new _ _ _
 clear hw1;obtain ⟨n0,n1,n2⟩:=hN1.three;have zN:=hN1.lt;have H1:=Zh (HH.out.below hb1)
 go_loop [3] (fun q=>∃ i:Nat,i≤k∧q=.int .i64 i∧∀ j t,j<i→N.ts[j]?=some t→t.costs.length≤300) (fun q=>k-(intOf q).toNat)
 case atStart=>exact ⟨0,Nat.zero_le _,rfl,fun _ _ h=>absurd h (Nat.not_lt_zero _)⟩
 case round =>
  obtain ⟨i,hi,rfl,hall⟩:=hrel;have HA:=Zh hall;clear hall
  by_cases hlt:i<k
  · obtain ⟨b,o,t,rfl,ht,k0,k1,A',n',c',k2,hr,hc1,hc2⟩:=H1.out.2.2.at_ hlt
    have i1:(0:Int)≤(i:Int):=by omega
    have i2:(i:Int)<(k:Int):=by omega
    have HT:=Zh ht;have HC:=Zh hr.1;clear ht hr
    by_cases q3:(n':Int) > 300
    · go_wp2_with fail
      go_ret
      exact ⟨⟨false,rfl,fun h=>by cases h⟩,hb1⟩
    · go_wp2_with fail
      go_round
      case rel =>
       refine ⟨i+1,by omega,by go_num,fun j y hj hy=>?_⟩
       by_cases e:j=i
       · subst e
         rw [HT.out] at hy
         cases hy
         rw [HC.out];omega
       · exact HA.out j y (by omega) hy
      case measure=>simp [intOf];omega
  · obtain rfl:i=k:=by omega
    go_wp2_with fail
    go_ret
    refine ⟨⟨true,rfl,fun _=>⟨by rw [HLV.out];omega,by rw [HLA.out];omega,by rw [HLT.out];omega,fun t ht=>?_⟩⟩,hb1⟩;obtain ⟨j,hj⟩:=Yr ht;exact HA.out j t (by rw [←HLT.out];exact (Zs hj).1) hj
theorem Qrx (A:Option Addr)(n m:Nat)(c:Int)(V:World):(Instr.field 66 (.agg #[.slice A n m,.int .i64 c]) 1).run prog V=.ok (.int .i64 c) V:=by kernel_rfl
set_option maxHeartbeats 400000 in
set_option maxRecDepth 20000 in
theorem may3_any (A B C:Option Addr)(n m k c d e:Nat)(N:Qam)(w:World)(h:Qce w A B C n m k N)(hn:n≤9223372036854775807)(hm:m≤9223372036854775807)(hk:k≤9223372036854775807) :
 Calls prog 84 #[.agg #[.slice A n c,.slice B m d,.slice C k e]] w fun e w'=>Qil (FewOk N∧Qap N) e∧Below w.heap.size w w':=by
 go_enter func84,ntmps84
 go_wp2_with fail
 (refine Qae ?_;intro w1 hw1)
 have hb1:Below w.heap.size w w1:=by rw [hw1];exact Qah
 have hN1:Blk w1 w.heap.size 26 #[.slice A n c,.slice B m d,.slice C k e]:=by rw [hw1];exact Blk.new _ _ _
 clear hw1;with_reducible refine (few_any A B C n m k c d e N w1 (h.below hb1)).mono ?_
 rintro e' w2 ⟨⟨b,rfl,hf⟩,hb2⟩;have hb2':=Zb hb1 hb2;obtain ⟨n0,n1,n2⟩:=(hN1.below hb2 hN1.lt).three
 cases b
 · go_wp2_with fail
   go_ret
   exact ⟨⟨false,rfl,fun h=>by cases h⟩,Qah⟩
 have HF:=Zh (hf rfl);clear hf
 go_wp2_with fail
 with_reducible refine (Qku A B C n m k c d e N w2 (h.below hb2') hn hm hk).mono ?_
 rintro e' w3 ⟨⟨A4,k4,c4,x,rfl,hx⟩,hb3⟩;have hb3':=Zb hb2' hb3;have hfe:=Qrx A4 k4 c4 x w3;clear hn hm hk h n0 n1 n2
 rcases hx with ⟨rfl,hG⟩|hx
 · have HG:=Zh hG
   clear hG
   go_wp2_with fail
   go_ret
   exact ⟨⟨true,rfl,fun _=>⟨HF.out,HG.out⟩⟩,hb3'⟩
 · go_wp2_with fail
   go_ret
   exact ⟨⟨_,rfl,fun h=>absurd (by simpa using h) hx⟩,hb3'⟩
structure Qwa (N:Qam):Prop where
 v:N.vs.length≤24
 a:N.ar.length≤90
 few:FewOk N
 ok:Qap N
set_option maxHeartbeats 400000 in
set_option maxRecDepth 20000 in
theorem Qwo (A B C:Option Addr)(n m k c d e:Nat)(N:Qam)(w:World)(h:Qce w A B C n m k N)(hk:k≤9223372036854775807) :
 Calls prog 37 #[.agg #[.slice A n c,.slice B m d,.slice C k e]] w fun e w'=>Qil (Qwa N) e∧Below w.heap.size w w':=by
 have HLV:=Zh h.1.1;have HLA:=Zh h.2.1.1;have HH:=Zh h;have HK:=Zh hk;clear hk h
 by_cases q0:(n:Int)≤24
 rotate_left
 · go_enter func37,ntmps37
   exact Kbe
 by_cases q1:(m:Int)≤90
 rotate_left
 · go_enter func37,ntmps37
   exact Kbe
 go_enter func37,ntmps37
 go_wp2_with fail
 (refine Qae ?_;intro w1 hw1)
 have hb1:Below w.heap.size w w1:=by rw [hw1];exact Qah
 clear hw1;with_reducible refine (may3_any A B C n m k c d e N w1 (HH.out.below hb1) (by omega) (by omega) HK.out).mono ?_
 rintro e' w2 ⟨⟨b,rfl,hf⟩,hb2⟩;have HF:=Zh hf;clear hf;have hb2':=Zb hb1 hb2
 go_wp2_with fail
 go_ret
 exact ⟨⟨b,rfl,fun h=>⟨by rw [HLV.out];omega,by rw [HLA.out];omega,(HF.out h).1,(HF.out h).2⟩⟩,hb2'⟩
theorem Qwe:(Tryz.prog.info? 2).map (fun i=>(i.zero,i.size,i.bytes))=some (some (.int .i64 0),1,8):=by kernel_rfl
set_option maxHeartbeats 1000000 in
theorem Qvw (A:Option Addr)(n c:Nat)(t:Qfv)(w:World)(h:RdI w A n t.costs)(hn:n≤1000000) :
 Calls prog 139 #[.agg #[.int .i64 t.ins,.int .i64 t.outs,.slice A n c]] w fun e w'=>∃ A' c',e=.returned (.agg #[.int .i64 t.ins,.int .i64 t.outs,.slice A' n c'])∧Own w' w.heap.size 2 1 A' n c' (Qag t.costs)∧Below w.heap.size w w':=by
 obtain ⟨i,o,cs⟩:=t;have h:RdI w A n cs:=h;simp only;have HR:=Zh h;clear h
 go_enter func139,ntmps139
 go_wp2_with fail
 (refine Qai ?_;intro w1 hw1)
 have hb1:Below w.heap.size w w1:=by rw [hw1];exact Qah
 have hT1:Blk w1 w.heap.size 122 #[.int .i64 i,.int .i64 o,.slice A n c]:=by rw [hw1];exact Qbh
 have hB1:Blk w1 (w.heap.size+1) 193 #[.int .i64 0,.int .i64 0,.slice none 0 0]:=by rw [hw1];exact Qbh
 have hz1:w1.heap.size=w.heap.size+1+1:=by rw [hw1];simp
 clear hw1;obtain ⟨t0,t1,t2⟩:=hT1.three;have hb0:Below (w.heap.size+1) w1 w1.drew:=(Zr _ _).drew;have HSX:=Zh (show ∀ V,Below (w.heap.size+1) w1 V→V.cell? ⟨w.heap.size,0,none⟩=some (.int .i64 i)∧V.cell? ⟨w.heap.size,1,none⟩=some (.int .i64 o)∧V.cell? ⟨w.heap.size,2,none⟩=some (.slice A n c) from fun V hV=>⟨(hV.cell (Nat.lt_succ_self _)).trans t0,(hV.cell (Nat.lt_succ_self _)).trans t1,(hV.cell (Nat.lt_succ_self _)).trans t2⟩)
 clear t0 t1 t2;refine wp_region_held_drew (S:=fun V=>Below (w.heap.size+1) w1 V) (by kernel_rfl) hb0 (fun _=>?_);refine tz 0 3 ?_;refine tz 1 4 ?_;refine tz 2 5 ?_;refine tz 3 6 ?_;refine tz 5 8 ?_;refine tz 6 9 ?_;refine Zk 4 (fun K hK=>?_);go_simp;obtain ⟨W,hW⟩:∃ W,W=(w1.alloc (.cells #[] 2)).drew:=⟨_,rfl⟩;rw [←hW]
 have hownW:Own W (w.heap.size+1+1) 2 1 (some ⟨w1.heap.size,0,none⟩) 0 0 []:=by
  rw [hW];exact Own.drew (Own.lit w1 #[] 0 (by omega) (by omega) rfl)
 rw [hz1] at hownW;have hbW:Below (w.heap.size+1) w1 W:=by rw [hW];exact ((Zr _ _).alloc (by omega) _).drew
 have hB2:Blk W (w.heap.size+1) 193 #[.int .i64 0,.int .i64 0,.slice none 0 0]:=by rw [hW];exact Qne
 have hbwW:Below w.heap.size w W:=hb1.trans (hbW.mono (by omega));have hrW:Rds W 1 A n (Qag cs):=(HR.out.below hbwW).rdsI;have hzW:w.heap.size+1+1≤W.heap.size:=by have:=hbW.size;omega
 clear hW;refine hK.out _ _ hbW (fun _=>?_);clear hK K;refine Zk 7 (fun K hK=>?_);with_reducible refine Qay (some 10) rfl rfl (.tmp 7) (.tmp 9) 36 rfl 2 _ 1 8 Qwe underlying36 rfl (by omega) rfl rfl hownW hrW (Qao _) (by omega) (by omega) hzW ?_
 intro A' c' w' hown' hg' _;have hb5:Below (w.heap.size+1) w1 w':=Zo hbW hg' (hownW.mono (by omega)) (by omega);have hb6:Below w.heap.size w w':=Zo hbwW hg' (hownW.mono (by omega)) (by omega);have hB':=hB2.grown hg' (hownW.ne (by omega));rw [Yz,List.nil_append] at hown';have HO:=Zh (hown'.mono (show w.heap.size+2≤w.heap.size+1+1 by omega))
 refine hK.out _ _ hb5 (fun _=>?_);clear hK K hownW hrW hg' hown';simp only [Act.put,Yi,Yj,Yk,Yz];obtain ⟨c0,c1,c2⟩:=hB'.three;have f0:=hB'.frozen 0;have f1:=hB'.frozen 1;have f2:=hB'.frozen 2;refine tz 8 11 ?_;refine Zk 9 (fun K hK=>?_);go_simp;refine hK.out _ _ (((hb5.setCell (Zn _) _).setCell (Zn _) _).setCell (Zn _) _) (fun _=>?_);clear hK K;refine Zd ?_
 go_wp2_with fail
 refine bodyPost_ret (v:=.agg #[.int .i64 i,.int .i64 o,.slice A' n c']) (by simp [results,results139,go_sem,c0,c1,c2]) rfl ?_;refine ⟨A',c',rfl,?_,Qah⟩;have:=ownsRow_setCell_below (ownsRow_setCell_below (ownsRow_setCell_below HO.out (a:=⟨w.heap.size+1,0,none⟩) (by show w.heap.size+1<w.heap.size+2;omega) (.int .i64 i)) (a:=⟨w.heap.size+1,1,none⟩) (by show w.heap.size+1<w.heap.size+2;omega) (.int .i64 o)) (a:=⟨w.heap.size+1,2,none⟩) (by show w.heap.size+1<w.heap.size+2;omega) (.slice A' n c')
 exact Own.mono this (by omega)
def YwO (W:World)(B:Nat)(A:Option Addr)(n c:Nat)(xs:List Value)(ls:List Qfv):Prop :=
 Own W B 193 3 A n c xs∧ls.length=n∧∀ j t,ls[j]?=some t→∃ A2 n2 c2,xs[j*3]?=some (.int .i64 t.ins)∧xs[j*3+1]?=some (.int .i64 t.outs)∧xs[j*3+2]?=some (.slice A2 n2 c2)∧RdI W A2 n2 t.costs∧(∀ g,Qab A2=some g→B≤g∧g<W.heap.size∧Qab A≠some g)∧n2≤c2∧c2≤9223372036854775807
theorem YwO.nil (W:World)(B:Nat):YwO W B none 0 0 [] []:=⟨Own.nil _ _ _ _,rfl,fun j l h=>by simp at h⟩
theorem YwO.rdY {W:World}{B n c:Nat}{A:Option Addr}{xs:List Value}{ls:List Qfv}(h:YwO W B A n c xs ls):RdY W A n ls :=
 ⟨h.2.1,fun i t ht=>by
  obtain ⟨A2,n2,c2,h1,h2,h3,h4,_,h5,h6⟩:=h.2.2 i t ht;obtain ⟨b,o,e,k1⟩:=h.1.rds.2 _ _ h1;obtain ⟨b',o',e',k2⟩:=h.1.rds.2 _ _ h2;rw [e] at e';cases e'
  obtain ⟨b',o',e',k3⟩:=h.1.rds.2 _ _ h3;rw [e] at e';cases e'
  exact ⟨b,o,e,k1,by rw [Nat.add_assoc];exact k2,A2,n2,c2,by rw [Nat.add_assoc];exact k3,h4,h5,h6⟩⟩
theorem YwO.push {W w':World}{B n c c' m d:Nat}{A A' R:Option Addr}{xs:List Value}{ls:List Qfv}{t:Qfv}(h:YwO W B A n c xs ls)
 (hown:Own w' B 193 3 A' (n+1) c' (xs ++[.int .i64 t.ins,.int .i64 t.outs,.slice R m d])) (hg:W.grownBy w' (Qab A)) (hat:Qab A'=Qab A∨Qab A'=some W.heap.size)
 (hr:RdI W R m t.costs) (hne:∀ g,Qab R=some g→B≤g∧g<W.heap.size∧Qab A≠some g) (h4:m≤d) (h5:d≤9223372036854775807):YwO w' B A' (n+1) c' (xs ++[.int .i64 t.ins,.int .i64 t.outs,.slice R m d]) (ls ++[t]):=by
 have hxl:xs.length=ls.length*3:=by rw [h.1.1,h.2.1]
 have new:∀ Y:Option Addr,(∀ g,Qab Y=some g→B≤g∧g<W.heap.size∧Qab A≠some g)→∀ g,Qab Y=some g→B≤g∧g<w'.heap.size∧Qab A'≠some g:=fun Y hY g e=>by
  obtain ⟨k0,k1,k2⟩:=hY g e;refine ⟨k0,Yu k1 hg.size,fun e2=>?_⟩
  exact Kbi
 refine ⟨hown,by simp [h.2.1],fun j t' hl=>?_⟩
 rcases Nat.lt_trichotomy j ls.length with hj|hj|hj
 · rw [Yc hj] at hl
   obtain ⟨A2,n2,c2,p1,p2,p3,k2,k3,k4,k5⟩:=h.2.2 j t' hl;exact ⟨A2,n2,c2,by rw [Yc (by omega)];exact p1,by rw [Yc (by omega)];exact p2,by rw [Yc (by omega)];exact p3,k2.grownN hg (fun g e=>(k3 g e).2.2),new A2 k3,k4,k5⟩
 · subst hj
   rw [Yb (Zn _),Yy] at hl
   cases hl
   refine ⟨R,m,d,?_,?_,?_,hr.grownN hg (fun g e=>(hne g e).2.2),new R hne,h4,h5⟩
   · rw [←hxl,Yb (Zn _),Yy];rfl
   · rw [←hxl,Yb (by omega),Nat.add_sub_cancel_left];rfl
   · rw [←hxl,Yb (by omega),Nat.add_sub_cancel_left];rfl
 · rw [Yd (by simp;omega)] at hl
   cases hl
theorem YwO.below {W W':World}{B n c:Nat}{A:Option Addr}{xs:List Value}{ls:List Qfv}(h:YwO W B A n c xs ls)(hb:Below W.heap.size W W'):YwO W' B A n c xs ls :=
 ⟨h.1.below hb,h.2.1,fun i l hl=>by
  obtain ⟨A',n',c',p1,p2,p3,h2,h3,h4,h5⟩:=h.2.2 i l hl;exact ⟨A',n',c',p1,p2,p3,h2.below hb,fun g hg=>⟨(h3 g hg).1,Yu (h3 g hg).2.1 hb.size,(h3 g hg).2.2⟩,h4,h5⟩⟩
theorem YwO.far {W W':World}{B n c:Nat}{A:Option Addr}{xs:List Value}{ls:List Qfv}(h:YwO W B A n c xs ls){g:Nat} (hg:W.grownBy W' (some g)) (hB:g<B):YwO W' B A n c xs ls :=
 ⟨h.1.far hg (.inr (fun e=>by have:=(h.1.lt g e).1;omega)),h.2.1,fun i l hl=>by
  obtain ⟨A',n',c',p1,p2,p3,h2,h3,h4,h5⟩:=h.2.2 i l hl;refine ⟨A',n',c',p1,p2,p3,h2.grownN hg (fun k hk e=>?_),fun k hk=>⟨(h3 k hk).1,Yu (h3 k hk).2.1 hg.size,(h3 k hk).2.2⟩,h4,h5⟩
  cases e
  have:=(h3 g hk).1;omega⟩
end Go.Proofs.YtdheeddnkdhfeaaGreatDoor
