/- Parts of the proof: MeB, Pe. -/
import Derived.Test.YthoagdpakddbdaaGreatDoorK1
import Derived.Test.YthoagdpakddbdaaGreatDoorK4
import Derived.Test.YthoagdpakddbdaaGreatDoorK26
import Derived.Test.YthoagdpakddbdaaGreatDoorK28
namespace Go.Proofs.YthoagdpakddbdaaGreatDoor
open Go.RowKit Go.Proofs.Tryz
attribute [local go_sem ↓] Go.wp_at_zero Go.wp_at_succ
theorem Qns {N:Qaj}{l:List Chn}{j:Nat}{c:Chn}(h:Qpj N c≠0):Qdp N (l.take j) c=Qpj N c:=by
 unfold Qdp;rw [if_pos h]
theorem Qpk {N:Qaj}{l:List Chn}{j k:Nat}{c b:Chn}(h:Qpj N c=0)(hk:k<j) (hb:l[k]?=some b) (he:b.key=c.key):Qdp N (l.take j) c=6:=by
 unfold Qdp;rw [if_neg (by rw [h];simp),if_pos (List.mem_map.2 ⟨b,Zm (i:=k) (by rw [List.getElem?_take_of_lt hk];exact hb),he⟩)]
theorem Qsb {N:Qaj}{l:List Chn}{j:Nat}{c:Chn}(h:Qpj N c=0) (hn:∀ (k:Nat) (b:Chn),k<j→l[k]?=some b→b.key≠c.key):Qdp N (l.take j) c=0:=by
 unfold Qdp;rw [if_neg (by rw [h];simp),if_neg (fun hm=>?_)];obtain ⟨b,hb,e⟩:=List.mem_map.1 hm;obtain ⟨k,hk⟩:=List.getElem?_of_mem hb;have hkj:k<j:=by have:=(Zs hk).1;rw [List.length_take] at this;omega
 rw [List.getElem?_take_of_lt hkj] at hk;exact hn k b hkj hk e
def CkbP (w:World) (ps:List (ByteArray×Int)) (c0:Int) (e:Ending) (w':World):Prop :=
 (∃ A4 n4 m4,e=.returned (.agg #[.slice A4 n4 m4,.int .i64 c0])∧(c0≠0→RdW w' A4 n4 ps)∧(c0=0→A4=none∧n4=0∧m4=0)∧n4≤1000000)∧Below w.heap.size w w'
set_option maxRecDepth 20000 in
set_option maxHeartbeats 8000000 in
theorem Qij (A B C:Option Addr)(n m k c d e:Nat)(N:Qaj)(CA:Option Addr)(cn cc:Nat)(l:List Chn)(w:World)(h:Qbm w A B C n m k N)(hl:Qiu w CA cn l)(hcn:cn≤9223372036854775807) (ps:List (ByteArray×Int)) (c0:Int) (hck:Ck N l ps c0) :
 Calls prog 21 #[.agg #[.slice A n c,.slice B m d,.slice C k e],.slice CA cn cc] w (CkbP w ps c0):=by
 have HH:=Zh h;have HL:=Zh hl;have HLN:=Zh hl.1;clear h hl
 by_cases hlong:256<cn
 · obtain ⟨hps,hc⟩:=hck.long (by rw [HLN.out];exact hlong)
   subst hps;subst hc;have i1:(256:Int)<(cn:Int):=by omega
   have hz:w.heap.size≤(w.heap.size+1):=by omega
   have HNZ:(4:Int)≠0:=by decide
   go_enter func21,ntmps21
   go_wp2_with fail
   (refine Qac ?_;intro w1 hw1)
   have hb:Below w.heap.size w w1:=by rw [hw1];exact Qae
   have hR:Blk w1 (w.heap.size+1) 48 #[.slice none 0 0,.int .i64 0]:=by rw [hw1];exact Qau
   clear hw1;with_reducible refine (Qpt _ _ _ _).mono ?_
   rintro e w3 ⟨A4,n4,m4,rfl,h4,hA4,h5,hb3⟩;have hB3:=hR.below hb3 hR.lt;obtain ⟨d0,d1,f0,f1⟩:=hB3.two;have hbw3:=Zb hb hb3;have HW:=Zh ((h4.setFar (w.heap.size+1) 0 (.slice A4 n4 m4) (fun b e=>⟨by have:=(hA4 b e).1;have:=hR.lt;omega,(hA4 b e).2⟩)).setFar (w.heap.size+1) 1 (.int .i64 4) (fun b e=>⟨by have:=(hA4 b e).1;have:=hR.lt;omega,by simpa using (hA4 b e).2⟩));have hbw4:Below w.heap.size w ((w3.setCell ⟨w.heap.size+1,0,none⟩ (.slice A4 n4 m4)).setCell ⟨w.heap.size+1,1,none⟩ (.int .i64 4)):=(hbw3.setCell (by simp only;omega) _).setCell (by simp only;omega) _;clear h4 hA4 hb3
   go_wp2_with fail
   refine bodyPost_ret (v:=.agg #[.slice A4 n4 m4,.int .i64 4]) (by simp [results,results21,go_sem,d0,d1]) rfl ?_;exact ⟨⟨_,_,_,rfl,fun _=>by first|exact HW.out|(rw [HPS9.out];exact HW.out),fun h0=>absurd h0 HNZ,h5⟩,hbw4⟩
 obtain ⟨i0,e0,hvd,hc,hps⟩:=hck.short (by rw [HLN.out];omega);subst hc;have HV:=Zh hvd;have HP:=Zh hps;have hi0:=hvd.le;rw [HLN.out] at hi0;have i1:¬(256:Int)<(cn:Int):=by omega
 clear hck hvd hps
 go_enter func21,ntmps21
 go_wp2_with fail
 (refine Qah ?_;intro w1 hw1)
 have hb1:Below w.heap.size w w1:=by rw [hw1];exact Qae
 have hX1:Blk w1 w.heap.size 26 #[.slice A n c,.slice B m d,.slice C k e]:=by rw [hw1];exact Qau
 have hR1:Blk w1 (w.heap.size+1) 48 #[.slice none 0 0,.int .i64 0]:=by rw [hw1];exact Qau
 have HRB:=Zh (show w.heap.size≤(w.heap.size+1) by omega)
 have HX1:=Zh hX1;have HR1:=Zh hR1;have HB1:=Zh hb1;clear hw1 hX1 hR1 hb1
 go_loopw [5] (fun q V=>Below w1.heap.size w1 V∧∃ j:Nat,j≤i0∧q=.int .i64 j) (fun q _=>cn+1-(intOf q).toNat)
 case atStart=>exact ⟨Zr _ _,0,Nat.zero_le _,rfl⟩
 case round =>
  obtain ⟨hbl,j,hj,rfl⟩:=hrel;have hb:=Zb HB1.out hbl;have hR:=HR1.out.below hbl HR1.out.lt;have hX:=HX1.out.below hbl HX1.out.lt
  by_cases hlt:j<cn
  rotate_left
  · obtain rfl:j=cn:=by omega
    obtain rfl:i0=j:=by omega
    have hc0:c0=0:=by
     rcases HV.out.at_ with ⟨_,he⟩|⟨c,hc,_⟩
     · exact he
     · rw [List.getElem?_eq_none (by rw [HLN.out];exact Zn _)] at hc;cases hc
    subst hc0;have i3:¬((i0:Int)<(i0:Int)):=by omega
    obtain ⟨d0,d1,f0,f1⟩:=hR.two;have hz:w.heap.size≤(w.heap.size+1):=HRB.out;have hbw4:Below w.heap.size w ((wr.setCell ⟨w.heap.size+1,0,none⟩ (.slice none 0 0)).setCell ⟨w.heap.size+1,1,none⟩ (.int .i64 0)):=(hb.setCell hz _).setCell hz _;clear hX
    go_wp2_with fail
    refine bodyPost_ret (v:=.agg #[.slice none 0 0,.int .i64 0]) (by simp [results,results21,go_sem,d0,d1]) rfl ?_;exact ⟨⟨none,0,0,rfl,fun h=>absurd rfl h,fun _=>⟨rfl,rfl,rfl⟩,by omega⟩,hbw4⟩
  obtain ⟨lb,lo,x,y,z,u,v,rfl,hc,c1,c2,c3,c4,c5⟩:=HL.out.at_ hlt;have HC:=Zh hc;have i3:(j:Int)<(cn:Int):=by omega
  have i4:(0:Int)≤(j:Int):=by omega
  have HSX:=Zh (show ∀ V,Below w1.heap.size w1 V→V.cell? ⟨w.heap.size,0,none⟩=some (.slice A n c)∧V.cell? ⟨w.heap.size,1,none⟩=some (.slice B m d)∧V.cell? ⟨w.heap.size,2,none⟩=some (.slice C k e)∧V.cell? ⟨lb,lo+j*5,none⟩=some (.int .i64 x)∧V.cell? ⟨lb,lo+j*5+1,none⟩=some (.int .i64 y)∧V.cell? ⟨lb,lo+j*5+2,none⟩=some (.int .i64 z)∧V.cell? ⟨lb,lo+j*5+3,none⟩=some (.int .i64 u)∧V.cell? ⟨lb,lo+j*5+4,none⟩=some (.int .i64 v) from fun V hV=>by
   have hx:=HX1.out.below hV HX1.out.lt;have hw:=Zb HB1.out hV;exact ⟨Zq hx,Zq hx,Zq hx,Zc hw (Zn _) c1,Zc hw (Zn _) c2,Zc hw (Zn _) c3,Zc hw (Zn _) c4,Zc hw (Zn _) c5⟩)
  clear hc c1 c2 c3 c4 c5 hX hR
  go_wp2_with fail
  refine wp_region_held_drew (S:=fun V=>Below w1.heap.size w1 V) (by kernel_rfl) hbl.drew (fun _=>?_);refine tz 0 18 ?_;refine tz 1 19 ?_;refine tz 2 20 ?_;refine tz 3 21 ?_;refine tz 4 22 ?_;refine Zk 5 (fun K hK=>?_);go_simp;with_reducible refine (Qsm A B C n m k c d e N wr.drew x y z u v (HH.out.below hb.drew)).mono ?_
  rintro r w2 ⟨rfl,hb2⟩;have hbl2:Below w1.heap.size w1 w2:=Zb hbl.drew hb2;obtain ⟨E,hE⟩:∃ E,E=Qpj N (x,y,z,u,v):=⟨_,rfl⟩;rw [←hE];have HE:=Zh hE;clear hb2 hE;go_simp;refine hK.out _ _ hbl2 (fun _=>?_);clear hK K;refine tz 6 6 ?_;refine Zd ?_;clear HSX hbl hb;have hb:=Zb HB1.out hbl2
  by_cases hE0:E=0
  rotate_left
  · obtain ⟨hji,hce⟩:=HV.out.here HC.out hj (by rw [Qns (by rw [←HE.out];exact hE0),←HE.out];exact hE0)
    rw [Qns (by rw [←HE.out];exact hE0),←HE.out] at hce;subst hce;subst hji;have HNZ:=hE0;have HPS9:=Zh (HP.out hE0);have hR:=HR1.out.below hbl2 HR1.out.lt;have e1:(c0 != 0)=true:=by simpa using hE0
    clear hE0 hbl2;have hz:w.heap.size≤(w.heap.size+1):=HRB.out
    go_wp2_with fail
    with_reducible refine (Qpt _ _ _ _).mono ?_
    rintro e w3 ⟨A4,n4,m4,rfl,h4,hA4,h5,hb3⟩;have hB3:=hR.below hb3 hR.lt;obtain ⟨d0,d1,f0,f1⟩:=hB3.two;have hbw3:=Zb hb hb3;have HW:=Zh ((h4.setFar (w.heap.size+1) 0 (.slice A4 n4 m4) (fun b e=>⟨by have:=(hA4 b e).1;have:=hR.lt;omega,(hA4 b e).2⟩)).setFar (w.heap.size+1) 1 (.int .i64 c0) (fun b e=>⟨by have:=(hA4 b e).1;have:=hR.lt;omega,by simpa using (hA4 b e).2⟩));have hbw4:Below w.heap.size w ((w3.setCell ⟨w.heap.size+1,0,none⟩ (.slice A4 n4 m4)).setCell ⟨w.heap.size+1,1,none⟩ (.int .i64 c0)):=(hbw3.setCell (by simp only;omega) _).setCell (by simp only;omega) _;clear h4 hA4 hb3
    go_wp2_with fail
    refine bodyPost_ret (v:=.agg #[.slice A4 n4 m4,.int .i64 c0]) (by simp [results,results21,go_sem,d0,d1]) rfl ?_;exact ⟨⟨_,_,_,rfl,fun _=>by first|exact HW.out|(rw [HPS9.out];exact HW.out),fun h0=>absurd h0 HNZ,h5⟩,hbw4⟩
  subst hE0
  go_wp2_with fail
  go_loopw [7] (fun q V=>Below w1.heap.size w1 V∧∃ a:Nat,a≤j∧q=.int .i64 a∧∀ (a':Nat) (b:Chn),a'<a→l[a']?=some b→b.key≠Chn.key (x,y,z,u,v)) (fun q _=>cn+1-(intOf q).toNat)
  case atStart=>exact ⟨hbl2,0,Nat.zero_le _,rfl,fun _ _ h=>absurd h (Nat.not_lt_zero _)⟩
  case round =>
   clear hbl2 hb;obtain ⟨hbl,a,ha,rfl,hne⟩:=hrel;have HNE:=Zh hne;have hb:=Zb HB1.out hbl;clear hne
   by_cases haj:a<j
   rotate_left
   · obtain rfl:a=j:=by omega
     have i5:¬((a:Int)<(a:Int)):=by omega
     have HON:=Zh (HV.out.on HC.out hj (Qsb HE.out.symm HNE.out))
     go_wp2_with fail
     go_roundw
     case rel=>exact ⟨hbl,a+1,HON.out,by go_num⟩
     case measure=>simp [intOf];omega
   obtain ⟨lb',lo',x',y',z',u',v',e',hc',k1,k2,k3,k4,k5⟩:=(HL.out.below hb).at_ (show a<cn by omega)
   cases e'
   obtain ⟨lb',lo',x2,y2,z2,u2,v2,e',hc2,m1,m2,m3,m4,m5⟩:=(HL.out.below hb).at_ hlt
   cases e'
   rw [HC.out] at hc2
   cases hc2
   have HC':=Zh hc';have i5:(a:Int)<(j:Int):=by omega
   have i6:(0:Int)≤(a:Int):=by omega
   have i7:(a:Int)<(cn:Int):=by omega
   clear hc' k5 m5
   by_cases h0:x'=x
   rotate_left
   · have e0:(x' == x)=false:=by simpa using h0
     have HKN:=Zh (show Chn.key (x',y',z',u',v')≠Chn.key (x,y,z,u,v) from fun hk=>h0 (by simp only [Chn.key,Prod.mk.injEq] at hk;exact hk.1))
     clear h0
     go_wp2_with fail
     refine wp_region_held_drew (S:=fun V=>V=wr.drew) (by kernel_rfl) rfl (fun _=>?_);refine tz 0 34 ?_;refine tz 1 35 ?_;refine tz 2 36 ?_;refine tz 3 37 ?_;refine tz 4 38 ?_;refine tz 5 39 ?_;refine tz 6 40 ?_;refine tz 7 41 ?_;refine tz 8 42 ?_;refine tz 9 43 ?_;refine tz 10 44 ?_;refine tz 11 45 ?_;refine tw 12 46 ?_;refine tw 13 47 ?_;refine tw 14 48 ?_;refine tw 15 49 ?_;refine tw 16 50 ?_;refine tw 17 51 ?_;refine tw 18 52 ?_;refine tw 19 53 ?_;refine tw 20 54 ?_;refine tw 21 55 ?_;refine tw 22 56 ?_;refine tz 23 57 ?_;refine tz 24 58 ?_;refine tw 25 59 ?_;refine tw 26 60 ?_;refine tw 27 61 ?_;refine tw 28 62 ?_;refine tw 29 63 ?_;refine tw 30 64 ?_;refine tw 31 65 ?_;refine tw 32 66 ?_;refine tw 33 67 ?_;refine tw 34 68 ?_;refine tw 35 69 ?_;refine tz 36 70 ?_;refine tz 37 71 ?_;refine tw 38 72 ?_;refine tw 39 73 ?_;refine tw 40 74 ?_;refine tw 41 75 ?_;refine tw 42 76 ?_;refine tw 43 77 ?_;refine tw 44 78 ?_;refine tw 45 79 ?_;refine tw 46 80 ?_;refine tw 47 81 ?_;refine tw 48 82 ?_;refine tz 49 83 ?_;refine Zd ?_
     go_wp2_with fail
     go_roundw
     case rel =>
      refine ⟨hbl.drew,a+1,by omega,by go_num,fun a' b h1 h2=>?_⟩
      by_cases ea:a'=a
      · subst ea
        rw [HC'.out] at h2
        cases h2
        exact HKN.out
      · exact HNE.out a' b (by omega) h2
     case measure=>simp [intOf];omega
   by_cases h1:y'=y
   rotate_left
   · have e1:(y' == y)=false:=by simpa using h1
     have e0:(x' == x)=true:=by simpa using h0
     have HKN:=Zh (show Chn.key (x',y',z',u',v')≠Chn.key (x,y,z,u,v) from fun hk=>h1 (by simp only [Chn.key,Prod.mk.injEq] at hk;exact hk.2.1))
     clear h0 h1
     go_wp2_with fail
     refine wp_region_held_drew (S:=fun V=>V=wr.drew) (by kernel_rfl) rfl (fun _=>?_);refine tz 0 34 ?_;refine tz 1 35 ?_;refine tz 2 36 ?_;refine tz 3 37 ?_;refine tz 4 38 ?_;refine tz 5 39 ?_;refine tz 6 40 ?_;refine tz 7 41 ?_;refine tz 8 42 ?_;refine tz 9 43 ?_;refine tz 10 44 ?_;refine tz 11 45 ?_;refine tz 12 46 ?_;refine tz 13 47 ?_;refine tz 14 48 ?_;refine tz 15 49 ?_;refine tz 16 50 ?_;refine tz 17 51 ?_;refine tz 18 52 ?_;refine tz 19 53 ?_;refine tz 20 54 ?_;refine tz 21 55 ?_;refine tz 22 56 ?_;refine tz 23 57 ?_;refine tz 24 58 ?_;refine tw 25 59 ?_;refine tw 26 60 ?_;refine tw 27 61 ?_;refine tw 28 62 ?_;refine tw 29 63 ?_;refine tw 30 64 ?_;refine tw 31 65 ?_;refine tw 32 66 ?_;refine tw 33 67 ?_;refine tw 34 68 ?_;refine tw 35 69 ?_;refine tz 36 70 ?_;refine tz 37 71 ?_;refine tw 38 72 ?_;refine tw 39 73 ?_;refine tw 40 74 ?_;refine tw 41 75 ?_;refine tw 42 76 ?_;refine tw 43 77 ?_;refine tw 44 78 ?_;refine tw 45 79 ?_;refine tw 46 80 ?_;refine tw 47 81 ?_;refine tw 48 82 ?_;refine tz 49 83 ?_;refine Zd ?_
     go_wp2_with fail
     go_roundw
     case rel =>
      refine ⟨hbl.drew,a+1,by omega,by go_num,fun a' b h1 h2=>?_⟩
      by_cases ea:a'=a
      · subst ea
        rw [HC'.out] at h2
        cases h2
        exact HKN.out
      · exact HNE.out a' b (by omega) h2
     case measure=>simp [intOf];omega
   by_cases h2:z'=z
   rotate_left
   · have e2:(z' == z)=false:=by simpa using h2
     have e0:(x' == x)=true:=by simpa using h0
     have e1:(y' == y)=true:=by simpa using h1
     have HKN:=Zh (show Chn.key (x',y',z',u',v')≠Chn.key (x,y,z,u,v) from fun hk=>h2 (by simp only [Chn.key,Prod.mk.injEq] at hk;exact hk.2.2.1))
     clear h0 h1 h2
     go_wp2_with fail
     refine wp_region_held_drew (S:=fun V=>V=wr.drew) (by kernel_rfl) rfl (fun _=>?_);refine tz 0 34 ?_;refine tz 1 35 ?_;refine tz 2 36 ?_;refine tz 3 37 ?_;refine tz 4 38 ?_;refine tz 5 39 ?_;refine tz 6 40 ?_;refine tz 7 41 ?_;refine tz 8 42 ?_;refine tz 9 43 ?_;refine tz 10 44 ?_;refine tz 11 45 ?_;refine tz 12 46 ?_;refine tz 13 47 ?_;refine tz 14 48 ?_;refine tz 15 49 ?_;refine tz 16 50 ?_;refine tz 17 51 ?_;refine tz 18 52 ?_;refine tz 19 53 ?_;refine tz 20 54 ?_;refine tz 21 55 ?_;refine tz 22 56 ?_;refine tz 23 57 ?_;refine tz 24 58 ?_;refine tz 25 59 ?_;refine tz 26 60 ?_;refine tz 27 61 ?_;refine tz 28 62 ?_;refine tz 29 63 ?_;refine tz 30 64 ?_;refine tz 31 65 ?_;refine tz 32 66 ?_;refine tz 33 67 ?_;refine tz 34 68 ?_;refine tz 35 69 ?_;refine tz 36 70 ?_;refine tz 37 71 ?_;refine tw 38 72 ?_;refine tw 39 73 ?_;refine tw 40 74 ?_;refine tw 41 75 ?_;refine tw 42 76 ?_;refine tw 43 77 ?_;refine tw 44 78 ?_;refine tw 45 79 ?_;refine tw 46 80 ?_;refine tw 47 81 ?_;refine tw 48 82 ?_;refine tz 49 83 ?_;refine Zd ?_
     go_wp2_with fail
     go_roundw
     case rel =>
      refine ⟨hbl.drew,a+1,by omega,by go_num,fun a' b h1 h2=>?_⟩
      by_cases ea:a'=a
      · subst ea
        rw [HC'.out] at h2
        cases h2
        exact HKN.out
      · exact HNE.out a' b (by omega) h2
     case measure=>simp [intOf];omega
   by_cases h3:u'=u
   rotate_left
   · have e3:(u' == u)=false:=by simpa using h3
     have e0:(x' == x)=true:=by simpa using h0
     have e1:(y' == y)=true:=by simpa using h1
     have e2:(z' == z)=true:=by simpa using h2
     have HKN:=Zh (show Chn.key (x',y',z',u',v')≠Chn.key (x,y,z,u,v) from fun hk=>h3 (by simp only [Chn.key,Prod.mk.injEq] at hk;exact hk.2.2.2))
     clear h0 h1 h2 h3
     go_wp2_with fail
     refine wp_region_held_drew (S:=fun V=>V=wr.drew) (by kernel_rfl) rfl (fun _=>?_);refine tz 0 34 ?_;refine tz 1 35 ?_;refine tz 2 36 ?_;refine tz 3 37 ?_;refine tz 4 38 ?_;refine tz 5 39 ?_;refine tz 6 40 ?_;refine tz 7 41 ?_;refine tz 8 42 ?_;refine tz 9 43 ?_;refine tz 10 44 ?_;refine tz 11 45 ?_;refine tz 12 46 ?_;refine tz 13 47 ?_;refine tz 14 48 ?_;refine tz 15 49 ?_;refine tz 16 50 ?_;refine tz 17 51 ?_;refine tz 18 52 ?_;refine tz 19 53 ?_;refine tz 20 54 ?_;refine tz 21 55 ?_;refine tz 22 56 ?_;refine tz 23 57 ?_;refine tz 24 58 ?_;refine tz 25 59 ?_;refine tz 26 60 ?_;refine tz 27 61 ?_;refine tz 28 62 ?_;refine tz 29 63 ?_;refine tz 30 64 ?_;refine tz 31 65 ?_;refine tz 32 66 ?_;refine tz 33 67 ?_;refine tz 34 68 ?_;refine tz 35 69 ?_;refine tz 36 70 ?_;refine tz 37 71 ?_;refine tz 38 72 ?_;refine tz 39 73 ?_;refine tz 40 74 ?_;refine tz 41 75 ?_;refine tz 42 76 ?_;refine tz 43 77 ?_;refine tz 44 78 ?_;refine tz 45 79 ?_;refine tz 46 80 ?_;refine tz 47 81 ?_;refine tz 48 82 ?_;refine tz 49 83 ?_;refine Zd ?_
     go_wp2_with fail
     go_roundw
     case rel =>
      refine ⟨hbl.drew,a+1,by omega,by go_num,fun a' b h1 h2=>?_⟩
      by_cases ea:a'=a
      · subst ea
        rw [HC'.out] at h2
        cases h2
        exact HKN.out
      · exact HNE.out a' b (by omega) h2
     case measure=>simp [intOf];omega
   have e0:(x' == x)=true:=by simpa using h0
   have e1:(y' == y)=true:=by simpa using h1
   have e2:(z' == z)=true:=by simpa using h2
   have e3:(u' == u)=true:=by simpa using h3
   have hst:=Qpk (N:=N) HE.out.symm haj HC'.out (show Chn.key (x',y',z',u',v')=Chn.key (x,y,z,u,v) by simp only [Chn.key];rw [h0,h1,h2,h3])
   obtain ⟨hji,hce⟩:=HV.out.here HC.out hj (by rw [hst];decide);rw [hst] at hce;subst hce;subst hji;have HPS9:=Zh (HP.out (by decide));have HNZ:(6:Int)≠0:=by decide
   have hR:=(HR1.out.below hbl HR1.out.lt).drew;clear h0 h1 h2 h3 hst
   go_wp2_with fail
   refine wp_region_held_drew (S:=fun V=>V=wr.drew) (by kernel_rfl) rfl (fun _=>?_);refine tz 0 34 ?_;refine tz 1 35 ?_;refine tz 2 36 ?_;refine tz 3 37 ?_;refine tz 4 38 ?_;refine tz 5 39 ?_;refine tz 6 40 ?_;refine tz 7 41 ?_;refine tz 8 42 ?_;refine tz 9 43 ?_;refine tz 10 44 ?_;refine tz 11 45 ?_;refine tz 12 46 ?_;refine tz 13 47 ?_;refine tz 14 48 ?_;refine tz 15 49 ?_;refine tz 16 50 ?_;refine tz 17 51 ?_;refine tz 18 52 ?_;refine tz 19 53 ?_;refine tz 20 54 ?_;refine tz 21 55 ?_;refine tz 22 56 ?_;refine tz 23 57 ?_;refine tz 24 58 ?_;refine tz 25 59 ?_;refine tz 26 60 ?_;refine tz 27 61 ?_;refine tz 28 62 ?_;refine tz 29 63 ?_;refine tz 30 64 ?_;refine tz 31 65 ?_;refine tz 32 66 ?_;refine tz 33 67 ?_;refine tz 34 68 ?_;refine tz 35 69 ?_;refine tz 36 70 ?_;refine tz 37 71 ?_;refine tz 38 72 ?_;refine tz 39 73 ?_;refine tz 40 74 ?_;refine tz 41 75 ?_;refine tz 42 76 ?_;refine tz 43 77 ?_;refine tz 44 78 ?_;refine tz 45 79 ?_;refine tz 46 80 ?_;refine tz 47 81 ?_;refine tz 48 82 ?_;refine tz 49 83 ?_;refine Zd ?_;have hb:=hb.drew;have hz:w.heap.size≤(w.heap.size+1):=HRB.out;clear e0 e1 e2 e3 k1 k2 k3 k4 m1 m2 m3 m4
   go_wp2_with fail
   with_reducible refine (Qpt _ _ _ _).mono ?_
   rintro e w3 ⟨A4,n4,m4,rfl,h4,hA4,h5,hb3⟩;have hB3:=hR.below hb3 hR.lt;obtain ⟨d0,d1,f0,f1⟩:=hB3.two;have hbw3:=Zb hb hb3;have HW:=Zh ((h4.setFar (w.heap.size+1) 0 (.slice A4 n4 m4) (fun b e=>⟨by have:=(hA4 b e).1;have:=hR.lt;omega,(hA4 b e).2⟩)).setFar (w.heap.size+1) 1 (.int .i64 6) (fun b e=>⟨by have:=(hA4 b e).1;have:=hR.lt;omega,by simpa using (hA4 b e).2⟩));have hbw4:Below w.heap.size w ((w3.setCell ⟨w.heap.size+1,0,none⟩ (.slice A4 n4 m4)).setCell ⟨w.heap.size+1,1,none⟩ (.int .i64 6)):=(hbw3.setCell (by simp only;omega) _).setCell (by simp only;omega) _;clear h4 hA4 hb3
   go_wp2_with fail
   refine bodyPost_ret (v:=.agg #[.slice A4 n4 m4,.int .i64 6]) (by simp [results,results21,go_sem,d0,d1]) rfl ?_;exact ⟨⟨_,_,_,rfl,fun _=>by first|exact HW.out|(rw [HPS9.out];exact HW.out),fun h0=>absurd h0 HNZ,h5⟩,hbw4⟩
theorem Qpq {n:Nat} {p:Option (List Int)} {l:List Int} (h:Qee n p l=0):Qen n l∧∀ q,p=some q→Qdj q l:=by
 unfold Qee at h
 split at h
 · cases h
 · split at h
   · assumption
   · cases h
set_option maxHeartbeats 2000000 in
set_option maxRecDepth 20000 in
theorem Qly (Q:Option Addr)(n L cq:Nat) (ls:List (List Int)) (w:World) (h:RdT w Q L ls) :
 Calls prog 73 #[.int .i64 n,.agg #[.slice Q L cq],.slice none 0 0] w fun e w'=>Qbe (Qcl n ls) e∧Below w.heap.size w w':=by
 have HT:=Zh h;clear h
 by_cases q0:(n:Int) > 4096
 · go_enter func73,ntmps73
   go_wp2_with fail
   (refine Qac ?_;intro w5 hw5)
   have hB5:Blk w5 (w.heap.size+1) 48 #[.slice none 0 0,.int .i64 0]:=by rw [hw5];exact Qau
   have hb5:Below w.heap.size w w5:=by rw [hw5];exact Qae
   clear hw5;with_reducible refine (Qaq _ _ _ _).mono ?_
   rintro e w2 ⟨⟨A4,n4,m4,rfl,hg4⟩,hb⟩;have hB2:=Blk.below hB5 hb hB5.lt;obtain ⟨c0,c1,f0,f1⟩:=hB2.two;have hb2:Below w.heap.size w w2:=Zb hb5 hb
   go_wp2_with fail
   refine bodyPost_ret (v:=.agg #[.slice A4 n4 m4,.int .i64 4]) (by simp [results,results73,go_sem,c0,c1]) rfl ?_
   first | exact ⟨Qbe.no (by decide),Qae⟩ | exact ⟨Qcs.no (Wg.mono (B:=w5.heap.size) (Wg.setCell (Wg.setCell hg4 hB5.lt _) hB5.lt _) hb5.size) (by decide),Qae⟩
 by_cases q1:(L:Int) > 6
 · go_enter func73,ntmps73
   go_wp2_with fail
   (refine Qac ?_;intro w5 hw5)
   have hB5:Blk w5 (w.heap.size+1) 48 #[.slice none 0 0,.int .i64 0]:=by rw [hw5];exact Qau
   have hb5:Below w.heap.size w w5:=by rw [hw5];exact Qae
   clear hw5;with_reducible refine (Qaq _ _ _ _).mono ?_
   rintro e w2 ⟨⟨A4,n4,m4,rfl,hg4⟩,hb⟩;have hB2:=Blk.below hB5 hb hB5.lt;obtain ⟨c0,c1,f0,f1⟩:=hB2.two;have hb2:Below w.heap.size w w2:=Zb hb5 hb
   go_wp2_with fail
   refine bodyPost_ret (v:=.agg #[.slice A4 n4 m4,.int .i64 4]) (by simp [results,results73,go_sem,c0,c1]) rfl ?_
   first | exact ⟨Qbe.no (by decide),Qae⟩ | exact ⟨Qcs.no (Wg.mono (B:=w5.heap.size) (Wg.setCell (Wg.setCell hg4 hB5.lt _) hB5.lt _) hb5.size) (by decide),Qae⟩
 by_cases q2:L=0
 · have j1:((L:Int) == 0)=true:=by simp;exact q2
   go_enter func73,ntmps73
   go_wp2_with fail
   (refine Qac ?_;intro w5 hw5)
   have hB5:Blk w5 (w.heap.size+1) 48 #[.slice none 0 0,.int .i64 0]:=by rw [hw5];exact Qau
   have hb5:Below w.heap.size w w5:=by rw [hw5];exact Qae
   clear hw5;with_reducible refine (Qaq _ _ _ _).mono ?_
   rintro e w2 ⟨⟨A4,n4,m4,rfl,hg4⟩,hb⟩;have hB2:=Blk.below hB5 hb hB5.lt;obtain ⟨c0,c1,f0,f1⟩:=hB2.two;have hb2:Below w.heap.size w w2:=Zb hb5 hb
   go_wp2_with fail
   refine bodyPost_ret (v:=.agg #[.slice A4 n4 m4,.int .i64 1]) (by simp [results,results73,go_sem,c0,c1]) rfl ?_
   first | exact ⟨Qbe.no (by decide),Qae⟩ | exact ⟨Qcs.no (Wg.mono (B:=w5.heap.size) (Wg.setCell (Wg.setCell hg4 hB5.lt _) hB5.lt _) hb5.size) (by decide),Qae⟩
 have j1:((L:Int) == 0)=false:=by simp;exact q2
 go_enter func73,ntmps73
 go_wp2_with fail
 (refine Qah ?_;intro w1 hw1)
 have hb1:Below w.heap.size w w1:=by rw [hw1];exact Qae
 have hQ:Blk w1 w.heap.size 29 #[.slice Q L cq]:=by rw [hw1];exact Qau
 have hB:Blk w1 (w.heap.size+1) 48 #[.slice none 0 0,.int .i64 0]:=by rw [hw1];exact Qau
 clear hw1
 go_loopw [7] (fun q W=>Below w.heap.size w W∧Blk W w.heap.size 29 #[.slice Q L cq]∧Blk W (w.heap.size+1) 48 #[.slice none 0 0,.int .i64 0]∧∃ i:Nat,i≤L∧q=.int .i64 ((i:Int)+1)∧∀ (j:Nat) (l:List Int),j<i→ls[j]?=some l→Qen n l∧∀ q,Qeu ls j=some q→Qdj q l) (fun q _=>L+1-(intOf q).toNat)
 case atStart=>exact ⟨hb1,hQ,hB,0,Nat.zero_le _,rfl,fun _ _ h=>absurd h (Nat.not_lt_zero _)⟩
 case round =>
  clear hb1 hQ hB;obtain ⟨hbl,hQ,hB,i,hi,rfl,hall⟩:=hrel;have HA:=Zh hall;clear hall;have y0:=hQ.cell 0;simp only [List.getElem?_toArray,List.getElem?_cons_zero] at y0
  by_cases hlt:i<L
  · obtain ⟨l,hl⟩:∃ l,ls[i]?=some l:=⟨_,Zg (by rw [HT.out.1];exact hlt)⟩
    have HCL:=Zh (Qkc Q n L cq i ls l wr (HT.out.below hbl) hl (by omega) (by omega) (fun j p e hp=>(HA.out j p (by omega) hp).1.len));have HLL:=Zh hl;have HI:=Zh (@Qpq n (Qeu ls i) l);have i1:(i:Int)+1≤(L:Int):=by omega
    clear hl;generalize Qee n (Qeu ls i) l=code at *
    go_wp2_with fail
    with_reducible refine HCL.out.mono ?_
    rintro e w2 ⟨rfl,hb2⟩;have hQ2:=hQ.below hb2 hQ.lt;have hB2:=hB.below hb2 hB.lt;have hbw2:=Zb hbl hb2;clear hQ hB y0 HCL hb2
    by_cases hc:code=0
    · subst hc
      have HO:=Zh (HI.out rfl);clear HI
      go_wp2_with fail
      go_roundw
      case rel=>exact ⟨hbw2,hQ2,hB2,i+1,by omega,by go_num,fun j l' hj hl'=>by
       by_cases e:j=i
       · subst e
         rw [HLL.out] at hl'
         cases hl'
         exact HO.out
       · exact HA.out j l' (by omega) hl'⟩
      case measure=>simp [intOf];omega
    · have e1:(code == 0)=false:=by simpa using hc
      have e2:(code != 0)=true:=by simpa using hc
      have HC:=Zh hc;clear hc
      go_wp2_with fail
      with_reducible refine (Qaq _ _ _ _).mono ?_
      rintro e w3 ⟨⟨A4,n4,m4,rfl,hg4⟩,hb3⟩;have hB3:=hB2.below hb3 hB2.lt;obtain ⟨c0,c1,f0,f1⟩:=hB3.two;have hbw3:=Zb hbw2 hb3
      go_wp2_with fail
      refine bodyPost_ret (v:=.agg #[.slice A4 n4 m4,.int .i64 code]) (by simp [results,results73,go_sem,c0,c1]) rfl ?_;exact ⟨Qbe.no HC.out,Qae⟩
  · obtain rfl:L=i:=by omega
    obtain ⟨c0,c1,f0,f1⟩:=hB.two;have zB:=hB.lt
    have HP:=Zh (show Qcl n ls from ⟨by rw [HT.out.1];omega,by rw [HT.out.1];omega,fun l hl=>by
     obtain ⟨j,hj⟩:=List.getElem?_of_mem hl;exact (HA.out j l (by rw [←HT.out.1];exact (Zs hj).1) hj).1,fun j p l hp hl=>(HA.out (j+1) l (by rw [←HT.out.1];exact (Zs hl).1) hl).2 p (by rw [Qgi];exact hp)⟩)
    clear HA
    go_wp2_with fail
    refine bodyPost_ret (v:=.agg #[.slice none 0 0,.int .i64 0]) (by simp [results,results73,go_sem,c0,c1]) rfl ?_;exact ⟨⟨_,_,_,_,rfl,.inl ⟨rfl,HP.out⟩⟩,Qae⟩
structure FewP (ls:List (List Int)):Prop where
 l:ls.length≤10
 r:∀ l∈ls,l.length≤60
set_option maxHeartbeats 1000000 in
theorem fewP_any (Q:Option Addr)(L cq:Nat) (ls:List (List Int)) (w:World) (h:RdT w Q L ls) (hL:L≤9223372036854775807) :
 Calls prog 72 #[.agg #[.slice Q L cq]] w fun e w'=>Qhr (FewP ls) e∧Below w.heap.size w w':=by
 have HT:=Zh h;have HLE:=Zh h.1;clear h
 go_enter func72,ntmps72
 go_wp2_with fail
 (refine Qah ?_;intro w1 hw1)
 have hb1:Below w.heap.size w w1:=by rw [hw1];exact Qae
 have hQ:Blk w1 w.heap.size 29 #[.slice Q L cq]:=by rw [hw1];exact Qau
 have H1:=Zh (HT.out.below hb1);clear hw1;have y0:=hQ.cell 0;simp only [List.getElem?_toArray,List.getElem?_cons_zero] at y0
 go_loop [3] (fun q=>∃ i:Nat,i≤L∧q=.int .i64 i∧∀ j l,j<i→ls[j]?=some l→l.length≤60) (fun q=>L-(intOf q).toNat)
 case atStart=>exact ⟨0,Nat.zero_le _,rfl,fun _ _ h=>absurd h (Nat.not_lt_zero _)⟩
 case round =>
  obtain ⟨i,hi,rfl,hall⟩:=hrel;have HA:=Zh hall;clear hall
  by_cases hlt:i<L
  · obtain ⟨b,o,A,n,c,l,rfl,hl,hc,hr,q1,q2⟩:=H1.out.at_ hlt
    have i1:(0:Int)≤(i:Int):=by omega
    have i2:(i:Int)<(L:Int):=by omega
    have HLL:=Zh hl;have HR:=Zh hr.1;clear hl hr
    by_cases q3:(n:Int) > 60
    · go_wp2_with fail
      go_ret
      exact ⟨⟨false,rfl,fun h=>by cases h⟩,hb1⟩
    · go_wp2_with fail
      go_round
      case rel=>exact ⟨i+1,by omega,by go_num,fun j l' hj hl'=>by
       by_cases e:j=i
       · subst e
         rw [HLL.out] at hl'
         cases hl'
         rw [HR.out];omega
       · exact HA.out j l' (by omega) hl'⟩
      case measure=>simp [intOf];omega
  · obtain rfl:L=i:=by omega
    go_wp2_with fail
    go_ret
    refine ⟨⟨_,rfl,fun h=>⟨by rw [HLE.out];have:=of_decide_eq_true h;omega,fun l hl=>?_⟩⟩,hb1⟩;obtain ⟨j,hj⟩:=List.getElem?_of_mem hl;exact HA.out j l (by rw [←HLE.out];exact (Zs hj).1) hj
set_option maxHeartbeats 1000000 in
theorem Qvk (Q:Option Addr)(n L cq:Nat) (ls:List (List Int)) (w:World) (h:RdT w Q L ls) (hL:L≤9223372036854775807) :
 Calls prog 34 #[.int .i64 n,.agg #[.slice Q L cq]] w fun e w'=>Qhr (FewP ls∧n≤60∧Qcl n ls) e∧Below w.heap.size w w':=by
 have HT:=Zh h;clear h
 go_enter func34,ntmps34
 go_wp2_with fail
 (refine Qac ?_;intro w1 hw1)
 have hb1:Below w.heap.size w w1:=by rw [hw1];exact Qae
 have hQ:Blk w1 w.heap.size 29 #[.slice Q L cq]:=by rw [hw1];exact Qau
 clear hw1;with_reducible refine (fewP_any Q L cq ls w1 (HT.out.below hb1) hL).mono ?_
 rintro e w2 ⟨⟨bb,rfl,hf⟩,hb2⟩;have hbw2:=Zb hb1 hb2;have y0:=(hQ.below hb2 hQ.lt).cell 0;simp only [List.getElem?_toArray,List.getElem?_cons_zero] at y0;clear hQ hb2
 cases bb
 · go_wp2_with fail
   go_ret
   exact ⟨⟨false,rfl,fun h=>by cases h⟩,hbw2⟩
 have HF:=Zh (hf rfl);clear hf
 by_cases q0:(n:Int)≤60
 rotate_left
 · go_wp2_with fail
   go_ret
   exact ⟨⟨false,rfl,fun h=>by cases h⟩,hbw2⟩
 go_wp2_with fail
 with_reducible refine (Qly Q n L cq ls w2 (HT.out.below hbw2)).mono ?_
 rintro e w3 ⟨⟨A4,k4,c4,x,rfl,hx⟩,hb3⟩;have hbw3:=Zb hbw2 hb3;have hfe:=Qql A4 k4 c4 x w3;clear y0
 rcases hx with ⟨rfl,hG⟩|hx
 · have HG:=Zh hG
   clear hG
   go_wp2_with fail
   go_ret
   exact ⟨⟨true,rfl,fun _=>⟨HF.out,by omega,HG.out⟩⟩,hbw3⟩
 · go_wp2_with fail
   go_ret
   exact ⟨⟨_,rfl,fun h=>absurd (by simpa using h) hx⟩,hbw3⟩
structure MayOk (N:Qaj) (ls:List (List Int)):Prop where
 small:Quw N
 few:FewP ls
 part:Qcl N.vs.length ls
set_option maxHeartbeats 1000000 in
theorem Qwm (A B C Q:Option Addr)(n m k c d e L cq:Nat)(N:Qaj) (ls:List (List Int)) (w:World) (h:Qbm w A B C n m k N) (hk:k≤9223372036854775807) (hq:RdT w Q L ls) (hL:L≤9223372036854775807) :
 Calls prog 9 #[.agg #[.slice A n c,.slice B m d,.slice C k e],.agg #[.slice Q L cq]] w fun e w'=>Qhr (MayOk N ls) e∧Below w.heap.size w w':=by
 have HH:=Zh h;have HT:=Zh hq;have HLV:=Zh h.1.1;clear h hq
 go_enter func9,ntmps9
 go_wp2_with fail
 (refine Qac ?_;intro w1 hw1)
 have hb1:Below w.heap.size w w1:=by rw [hw1];exact Qae
 have hN:Blk w1 w.heap.size 26 #[.slice A n c,.slice B m d,.slice C k e]:=by rw [hw1];exact Qau
 have hQ:Blk w1 (w.heap.size+1) 29 #[.slice Q L cq]:=by rw [hw1];exact Qau
 clear hw1;with_reducible refine (Qun A B C n m k c d e N w1 (HH.out.below hb1) hk).mono ?_
 rintro r w2 ⟨⟨bb,rfl,hf⟩,hb2⟩;have hbw2:=Zb hb1 hb2;have y0:=(hQ.below hb2 hQ.lt).cell 0;simp only [List.getElem?_toArray,List.getElem?_cons_zero] at y0;obtain ⟨n0,n1,n2⟩:=(hN.below hb2 hN.lt).three;clear hQ hb2 hN
 cases bb
 · go_wp2_with fail
   go_ret
   exact ⟨⟨false,rfl,fun h=>by cases h⟩,hbw2⟩
 have HF:=Zh (hf rfl);clear hf
 go_wp2_with fail
 with_reducible refine (Qvk Q n L cq ls w2 (HT.out.below hbw2) hL).mono ?_
 rintro r w3 ⟨⟨bb,rfl,hf⟩,hb3⟩;have HF2:=Zh hf;have hbw3:=Zb hbw2 hb3;clear hf
 go_wp2_with fail
 go_ret
 exact ⟨⟨bb,rfl,fun h=>⟨HF.out,(HF2.out h).1,by rw [HLV.out];exact (HF2.out h).2.2⟩⟩,hbw3⟩
end Go.Proofs.YthoagdpakddbdaaGreatDoor
