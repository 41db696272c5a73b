/- Parts of the proof: MeB, Pe, Sf, MeG, NtS. -/
import Derived.Test.YthoagdpakddbdaaGreatDoorL19
namespace Go.Proofs.YthoagdpakddbdaaGreatDoor
open Go.RowKit Go.Proofs.Tryz
attribute [local go_sem ↓] Go.wp_at_zero Go.wp_at_succ
theorem Qou {N:Qai}{l:List Chn}{j:Nat}{c:Chn}(h:Qqw N c≠0):Qdy N (l.take j) c=Qqw N c:=by
 unfold Qdy;rw [if_pos h]
theorem Qrl {N:Qai}{l:List Chn}{j k:Nat}{c b:Chn}(h:Qqw N c=0)(hk:k<j) (hb:l[k]?=some b) (he:b.key=c.key):Qdy N (l.take j) c=6:=by
 unfold Qdy;rw [if_neg (by rw [h];simp),if_pos (List.mem_map.2 ⟨b,Zm (i:=k) (by rw [List.getElem?_take_of_lt hk];exact hb),he⟩)]
theorem Qux {N:Qai}{l:List Chn}{j:Nat}{c:Chn}(h:Qqw N c=0) (hn:∀ (k:Nat) (b:Chn),k<j→l[k]?=some b→b.key≠c.key):Qdy N (l.take j) c=0:=by
 unfold Qdy;rw [if_neg (by rw [h];simp),if_neg (fun hm=>?_)];obtain ⟨b,hb,e⟩:=List.mem_map.1 hm;obtain ⟨k,hk⟩:=Yr hb;have hkj:k<j:=by have:=(Zs hk).1;rw [Yw] at this;omega
 rw [List.getElem?_take_of_lt hkj] at hk;exact hn k b hkj hk e
def CkbP (w:World) (ps:List (ByteArray×Int)) (c0:Int) (e:Ending) (w':World):Prop :=
 (∃ A4 n4 m4,e=.returned (.agg #[.slice A4 n4 m4,.int .i64 c0])∧(c0≠0→RdW w' A4 n4 ps)∧(c0=0→A4=none∧n4=0∧m4=0)∧n4≤1000000)∧Below w.heap.size w w'
set_option maxRecDepth 20000 in
set_option maxHeartbeats 8000000 in
theorem Qje (A B C:Option Addr)(n m k c d e:Nat)(N:Qai)(CA:Option Addr)(cn cc:Nat)(l:List Chn)(w:World)(h:Qbc w A B C n m k N)(hl:Qig w CA cn l)(hcn:cn≤9223372036854775807) (ps:List (ByteArray×Int)) (c0:Int) (hck:Ck N l ps c0) :
 Calls prog 21 #[.agg #[.slice A n c,.slice B m d,.slice C k e],.slice CA cn cc] w (CkbP w ps c0):=by
 have HH:=Zh h;have HL:=Zh hl;have HLN:=Zh hl.1;clear h hl
 by_cases hlong:256<cn
 · obtain ⟨hps,hc⟩:=hck.long (by rw [HLN.out];exact hlong)
   subst hps;subst hc;have i1:(256:Int)<(cn:Int):=by omega
   have hz:w.heap.size≤(w.heap.size+1):=by omega
   have HNZ:(4:Int)≠0:=by decide
   go_enter func21,ntmps21
   go_wp2_with fail
   (refine Qac ?_;intro w1 hw1)
   have hb:Below w.heap.size w w1:=by rw [hw1];exact Qaf
   have hR:Blk w1 (w.heap.size+1) 48 #[.slice none 0 0,.int .i64 0]:=by rw [hw1];exact Qaz
   clear hw1;with_reducible refine (Qqu _ _ _ _).mono ?_
   rintro e w3 ⟨A4,n4,m4,rfl,h4,hA4,h5,hb3⟩;have hB3:=hR.below hb3 hR.lt;obtain ⟨d0,d1,f0,f1⟩:=hB3.two;have hbw3:=Zb hb hb3;have HW:=Zh ((h4.setFar (w.heap.size+1) 0 (.slice A4 n4 m4) (fun b e=>⟨by have:=(hA4 b e).1;have:=hR.lt;omega,(hA4 b e).2⟩)).setFar (w.heap.size+1) 1 (.int .i64 4) (fun b e=>⟨by have:=(hA4 b e).1;have:=hR.lt;omega,by simpa using (hA4 b e).2⟩));have hbw4:Below w.heap.size w ((w3.setCell ⟨w.heap.size+1,0,none⟩ (.slice A4 n4 m4)).setCell ⟨w.heap.size+1,1,none⟩ (.int .i64 4)):=(hbw3.setCell (by simp only;omega) _).setCell (by simp only;omega) _;clear h4 hA4 hb3
   go_wp2_with fail
   refine bodyPost_ret (v:=.agg #[.slice A4 n4 m4,.int .i64 4]) (by simp [results,results21,go_sem,d0,d1]) rfl ?_;exact ⟨⟨_,_,_,rfl,fun _=>by first|exact HW.out|(rw [HPS9.out];exact HW.out),fun h0=>absurd h0 HNZ,h5⟩,hbw4⟩
 obtain ⟨i0,e0,hvd,hc,hps⟩:=hck.short (by rw [HLN.out];omega);subst hc;have HV:=Zh hvd;have HP:=Zh hps;have hi0:=hvd.le;rw [HLN.out] at hi0;have i1:¬(256:Int)<(cn:Int):=by omega
 clear hck hvd hps
 go_enter func21,ntmps21
 go_wp2_with fail
 (refine Qag ?_;intro w1 hw1)
 have hb1:Below w.heap.size w w1:=by rw [hw1];exact Qaf
 have hX1:Blk w1 w.heap.size 26 #[.slice A n c,.slice B m d,.slice C k e]:=by rw [hw1];exact Qaz
 have hR1:Blk w1 (w.heap.size+1) 48 #[.slice none 0 0,.int .i64 0]:=by rw [hw1];exact Qaz
 have HRB:=Zh (show w.heap.size≤(w.heap.size+1) by omega)
 have HX1:=Zh hX1;have HR1:=Zh hR1;have HB1:=Zh hb1;clear hw1 hX1 hR1 hb1
 go_loopw [5] (fun q V=>Below w1.heap.size w1 V∧∃ j:Nat,j≤i0∧q=.int .i64 j) (fun q _=>cn+1-(intOf q).toNat)
 case atStart=>exact ⟨Zr _ _,0,Nat.zero_le _,rfl⟩
 case round =>
  obtain ⟨hbl,j,hj,rfl⟩:=hrel;have hb:=Zb HB1.out hbl;have hR:=HR1.out.below hbl HR1.out.lt;have hX:=HX1.out.below hbl HX1.out.lt
  by_cases hlt:j<cn
  rotate_left
  · obtain rfl:j=cn:=by omega
    obtain rfl:i0=j:=by omega
    have hc0:c0=0:=by
     rcases HV.out.at_ with ⟨_,he⟩|⟨c,hc,_⟩
     · exact he
     · rw [Yd (by rw [HLN.out];exact Zn _)] at hc;cases hc
    subst hc0;have i3:¬((i0:Int)<(i0:Int)):=by omega
    obtain ⟨d0,d1,f0,f1⟩:=hR.two;have hz:w.heap.size≤(w.heap.size+1):=HRB.out;have hbw4:Below w.heap.size w ((wr.setCell ⟨w.heap.size+1,0,none⟩ (.slice none 0 0)).setCell ⟨w.heap.size+1,1,none⟩ (.int .i64 0)):=(hb.setCell hz _).setCell hz _;clear hX
    go_wp2_with fail
    refine bodyPost_ret (v:=.agg #[.slice none 0 0,.int .i64 0]) (by simp [results,results21,go_sem,d0,d1]) rfl ?_;exact ⟨⟨none,0,0,rfl,fun h=>absurd rfl h,fun _=>⟨rfl,rfl,rfl⟩,by omega⟩,hbw4⟩
  obtain ⟨lb,lo,x,y,z,u,v,rfl,hc,c1,c2,c3,c4,c5⟩:=HL.out.at_ hlt;have HC:=Zh hc;have i3:(j:Int)<(cn:Int):=by omega
  have i4:(0:Int)≤(j:Int):=by omega
  have HSX:=Zh (show ∀ V,Below w1.heap.size w1 V→V.cell? ⟨w.heap.size,0,none⟩=some (.slice A n c)∧V.cell? ⟨w.heap.size,1,none⟩=some (.slice B m d)∧V.cell? ⟨w.heap.size,2,none⟩=some (.slice C k e)∧V.cell? ⟨lb,lo+j*5,none⟩=some (.int .i64 x)∧V.cell? ⟨lb,lo+j*5+1,none⟩=some (.int .i64 y)∧V.cell? ⟨lb,lo+j*5+2,none⟩=some (.int .i64 z)∧V.cell? ⟨lb,lo+j*5+3,none⟩=some (.int .i64 u)∧V.cell? ⟨lb,lo+j*5+4,none⟩=some (.int .i64 v) from fun V hV=>by
   have hx:=HX1.out.below hV HX1.out.lt;have hw:=Zb HB1.out hV;exact ⟨Zq hx,Zq hx,Zq hx,Zc hw (Zn _) c1,Zc hw (Zn _) c2,Zc hw (Zn _) c3,Zc hw (Zn _) c4,Zc hw (Zn _) c5⟩)
  clear hc c1 c2 c3 c4 c5 hX hR
  go_wp2_with fail
  refine wp_region_held_drew (S:=fun V=>Below w1.heap.size w1 V) (by kernel_rfl) hbl.drew (fun _=>?_);refine tz 0 18 ?_;refine tz 1 19 ?_;refine tz 2 20 ?_;refine tz 3 21 ?_;refine tz 4 22 ?_;refine Zk 5 (fun K hK=>?_);go_simp;with_reducible refine (Quf A B C n m k c d e N wr.drew x y z u v (HH.out.below hb.drew)).mono ?_
  rintro r w2 ⟨rfl,hb2⟩;have hbl2:Below w1.heap.size w1 w2:=Zb hbl.drew hb2;obtain ⟨E,hE⟩:∃ E,E=Qqw N (x,y,z,u,v):=⟨_,rfl⟩;rw [←hE];have HE:=Zh hE;clear hb2 hE;go_simp;refine hK.out _ _ hbl2 (fun _=>?_);clear hK K;refine tz 6 6 ?_;refine Zd ?_;clear HSX hbl hb;have hb:=Zb HB1.out hbl2
  by_cases hE0:E=0
  rotate_left
  · obtain ⟨hji,hce⟩:=HV.out.here HC.out hj (by rw [Qou (by rw [←HE.out];exact hE0),←HE.out];exact hE0)
    rw [Qou (by rw [←HE.out];exact hE0),←HE.out] at hce;subst hce;subst hji;have HNZ:=hE0;have HPS9:=Zh (HP.out hE0);have hR:=HR1.out.below hbl2 HR1.out.lt;have e1:(c0 != 0)=true:=by simpa using hE0
    clear hE0 hbl2;have hz:w.heap.size≤(w.heap.size+1):=HRB.out
    go_wp2_with fail
    with_reducible refine (Qqu _ _ _ _).mono ?_
    rintro e w3 ⟨A4,n4,m4,rfl,h4,hA4,h5,hb3⟩;have hB3:=hR.below hb3 hR.lt;obtain ⟨d0,d1,f0,f1⟩:=hB3.two;have hbw3:=Zb hb hb3;have HW:=Zh ((h4.setFar (w.heap.size+1) 0 (.slice A4 n4 m4) (fun b e=>⟨by have:=(hA4 b e).1;have:=hR.lt;omega,(hA4 b e).2⟩)).setFar (w.heap.size+1) 1 (.int .i64 c0) (fun b e=>⟨by have:=(hA4 b e).1;have:=hR.lt;omega,by simpa using (hA4 b e).2⟩));have hbw4:Below w.heap.size w ((w3.setCell ⟨w.heap.size+1,0,none⟩ (.slice A4 n4 m4)).setCell ⟨w.heap.size+1,1,none⟩ (.int .i64 c0)):=(hbw3.setCell (by simp only;omega) _).setCell (by simp only;omega) _;clear h4 hA4 hb3
    go_wp2_with fail
    refine bodyPost_ret (v:=.agg #[.slice A4 n4 m4,.int .i64 c0]) (by simp [results,results21,go_sem,d0,d1]) rfl ?_;exact ⟨⟨_,_,_,rfl,fun _=>by first|exact HW.out|(rw [HPS9.out];exact HW.out),fun h0=>absurd h0 HNZ,h5⟩,hbw4⟩
  subst hE0
  go_wp2_with fail
  go_loopw [7] (fun q V=>Below w1.heap.size w1 V∧∃ a:Nat,a≤j∧q=.int .i64 a∧∀ (a':Nat) (b:Chn),a'<a→l[a']?=some b→b.key≠Chn.key (x,y,z,u,v)) (fun q _=>cn+1-(intOf q).toNat)
  case atStart=>exact ⟨hbl2,0,Nat.zero_le _,rfl,fun _ _ h=>absurd h (Nat.not_lt_zero _)⟩
  case round =>
   clear hbl2 hb;obtain ⟨hbl,a,ha,rfl,hne⟩:=hrel;have HNE:=Zh hne;have hb:=Zb HB1.out hbl;clear hne
   by_cases haj:a<j
   rotate_left
   · obtain rfl:a=j:=by omega
     have i5:¬((a:Int)<(a:Int)):=by omega
     have HON:=Zh (HV.out.on HC.out hj (Qux HE.out.symm HNE.out))
     go_wp2_with fail
     go_roundw
     case rel=>exact ⟨hbl,a+1,HON.out,by go_num⟩
     case measure=>simp [intOf];omega
   obtain ⟨lb',lo',x',y',z',u',v',e',hc',k1,k2,k3,k4,k5⟩:=(HL.out.below hb).at_ (show a<cn by omega)
   cases e'
   obtain ⟨lb',lo',x2,y2,z2,u2,v2,e',hc2,m1,m2,m3,m4,m5⟩:=(HL.out.below hb).at_ hlt
   cases e'
   rw [HC.out] at hc2
   cases hc2
   have HC':=Zh hc';have i5:(a:Int)<(j:Int):=by omega
   have i6:(0:Int)≤(a:Int):=by omega
   have i7:(a:Int)<(cn:Int):=by omega
   clear hc' k5 m5
   by_cases h0:x'=x
   rotate_left
   · have e0:(x' == x)=false:=by simpa using h0
     have HKN:=Zh (show Chn.key (x',y',z',u',v')≠Chn.key (x,y,z,u,v) from fun hk=>h0 (by simp only [Chn.key,Prod.mk.injEq] at hk;exact hk.1))
     clear h0
     go_wp2_with fail
     refine wp_region_held_drew (S:=fun V=>V=wr.drew) (by kernel_rfl) rfl (fun _=>?_);refine tz 0 34 ?_;refine tz 1 35 ?_;refine tz 2 36 ?_;refine tz 3 37 ?_;refine tz 4 38 ?_;refine tz 5 39 ?_;refine tz 6 40 ?_;refine tz 7 41 ?_;refine tz 8 42 ?_;refine tz 9 43 ?_;refine tz 10 44 ?_;refine tz 11 45 ?_;refine tw 12 46 ?_;refine tw 13 47 ?_;refine tw 14 48 ?_;refine tw 15 49 ?_;refine tw 16 50 ?_;refine tw 17 51 ?_;refine tw 18 52 ?_;refine tw 19 53 ?_;refine tw 20 54 ?_;refine tw 21 55 ?_;refine tw 22 56 ?_;refine tz 23 57 ?_;refine tz 24 58 ?_;refine tw 25 59 ?_;refine tw 26 60 ?_;refine tw 27 61 ?_;refine tw 28 62 ?_;refine tw 29 63 ?_;refine tw 30 64 ?_;refine tw 31 65 ?_;refine tw 32 66 ?_;refine tw 33 67 ?_;refine tw 34 68 ?_;refine tw 35 69 ?_;refine tz 36 70 ?_;refine tz 37 71 ?_;refine tw 38 72 ?_;refine tw 39 73 ?_;refine tw 40 74 ?_;refine tw 41 75 ?_;refine tw 42 76 ?_;refine tw 43 77 ?_;refine tw 44 78 ?_;refine tw 45 79 ?_;refine tw 46 80 ?_;refine tw 47 81 ?_;refine tw 48 82 ?_;refine tz 49 83 ?_;refine Zd ?_
     go_wp2_with fail
     go_roundw
     case rel =>
      refine ⟨hbl.drew,a+1,by omega,by go_num,fun a' b h1 h2=>?_⟩
      by_cases ea:a'=a
      · subst ea
        rw [HC'.out] at h2
        cases h2
        exact HKN.out
      · exact HNE.out a' b (by omega) h2
     case measure=>simp [intOf];omega
   by_cases h1:y'=y
   rotate_left
   · have e1:(y' == y)=false:=by simpa using h1
     have e0:(x' == x)=true:=by simpa using h0
     have HKN:=Zh (show Chn.key (x',y',z',u',v')≠Chn.key (x,y,z,u,v) from fun hk=>h1 (by simp only [Chn.key,Prod.mk.injEq] at hk;exact hk.2.1))
     clear h0 h1
     go_wp2_with fail
     refine wp_region_held_drew (S:=fun V=>V=wr.drew) (by kernel_rfl) rfl (fun _=>?_);refine tz 0 34 ?_;refine tz 1 35 ?_;refine tz 2 36 ?_;refine tz 3 37 ?_;refine tz 4 38 ?_;refine tz 5 39 ?_;refine tz 6 40 ?_;refine tz 7 41 ?_;refine tz 8 42 ?_;refine tz 9 43 ?_;refine tz 10 44 ?_;refine tz 11 45 ?_;refine tz 12 46 ?_;refine tz 13 47 ?_;refine tz 14 48 ?_;refine tz 15 49 ?_;refine tz 16 50 ?_;refine tz 17 51 ?_;refine tz 18 52 ?_;refine tz 19 53 ?_;refine tz 20 54 ?_;refine tz 21 55 ?_;refine tz 22 56 ?_;refine tz 23 57 ?_;refine tz 24 58 ?_;refine tw 25 59 ?_;refine tw 26 60 ?_;refine tw 27 61 ?_;refine tw 28 62 ?_;refine tw 29 63 ?_;refine tw 30 64 ?_;refine tw 31 65 ?_;refine tw 32 66 ?_;refine tw 33 67 ?_;refine tw 34 68 ?_;refine tw 35 69 ?_;refine tz 36 70 ?_;refine tz 37 71 ?_;refine tw 38 72 ?_;refine tw 39 73 ?_;refine tw 40 74 ?_;refine tw 41 75 ?_;refine tw 42 76 ?_;refine tw 43 77 ?_;refine tw 44 78 ?_;refine tw 45 79 ?_;refine tw 46 80 ?_;refine tw 47 81 ?_;refine tw 48 82 ?_;refine tz 49 83 ?_;refine Zd ?_
     go_wp2_with fail
     go_roundw
     case rel =>
      refine ⟨hbl.drew,a+1,by omega,by go_num,fun a' b h1 h2=>?_⟩
      by_cases ea:a'=a
      · subst ea
        rw [HC'.out] at h2
        cases h2
        exact HKN.out
      · exact HNE.out a' b (by omega) h2
     case measure=>simp [intOf];omega
   by_cases h2:z'=z
   rotate_left
   · have e2:(z' == z)=false:=by simpa using h2
     have e0:(x' == x)=true:=by simpa using h0
     have e1:(y' == y)=true:=by simpa using h1
     have HKN:=Zh (show Chn.key (x',y',z',u',v')≠Chn.key (x,y,z,u,v) from fun hk=>h2 (by simp only [Chn.key,Prod.mk.injEq] at hk;exact hk.2.2.1))
     clear h0 h1 h2
     go_wp2_with fail
     refine wp_region_held_drew (S:=fun V=>V=wr.drew) (by kernel_rfl) rfl (fun _=>?_);refine tz 0 34 ?_;refine tz 1 35 ?_;refine tz 2 36 ?_;refine tz 3 37 ?_;refine tz 4 38 ?_;refine tz 5 39 ?_;refine tz 6 40 ?_;refine tz 7 41 ?_;refine tz 8 42 ?_;refine tz 9 43 ?_;refine tz 10 44 ?_;refine tz 11 45 ?_;refine tz 12 46 ?_;refine tz 13 47 ?_;refine tz 14 48 ?_;refine tz 15 49 ?_;refine tz 16 50 ?_;refine tz 17 51 ?_;refine tz 18 52 ?_;refine tz 19 53 ?_;refine tz 20 54 ?_;refine tz 21 55 ?_;refine tz 22 56 ?_;refine tz 23 57 ?_;refine tz 24 58 ?_;refine tz 25 59 ?_;refine tz 26 60 ?_;refine tz 27 61 ?_;refine tz 28 62 ?_;refine tz 29 63 ?_;refine tz 30 64 ?_;refine tz 31 65 ?_;refine tz 32 66 ?_;refine tz 33 67 ?_;refine tz 34 68 ?_;refine tz 35 69 ?_;refine tz 36 70 ?_;refine tz 37 71 ?_;refine tw 38 72 ?_;refine tw 39 73 ?_;refine tw 40 74 ?_;refine tw 41 75 ?_;refine tw 42 76 ?_;refine tw 43 77 ?_;refine tw 44 78 ?_;refine tw 45 79 ?_;refine tw 46 80 ?_;refine tw 47 81 ?_;refine tw 48 82 ?_;refine tz 49 83 ?_;refine Zd ?_
     go_wp2_with fail
     go_roundw
     case rel =>
      refine ⟨hbl.drew,a+1,by omega,by go_num,fun a' b h1 h2=>?_⟩
      by_cases ea:a'=a
      · subst ea
        rw [HC'.out] at h2
        cases h2
        exact HKN.out
      · exact HNE.out a' b (by omega) h2
     case measure=>simp [intOf];omega
   by_cases h3:u'=u
   rotate_left
   · have e3:(u' == u)=false:=by simpa using h3
     have e0:(x' == x)=true:=by simpa using h0
     have e1:(y' == y)=true:=by simpa using h1
     have e2:(z' == z)=true:=by simpa using h2
     have HKN:=Zh (show Chn.key (x',y',z',u',v')≠Chn.key (x,y,z,u,v) from fun hk=>h3 (by simp only [Chn.key,Prod.mk.injEq] at hk;exact hk.2.2.2))
     clear h0 h1 h2 h3
     go_wp2_with fail
     refine wp_region_held_drew (S:=fun V=>V=wr.drew) (by kernel_rfl) rfl (fun _=>?_);refine tz 0 34 ?_;refine tz 1 35 ?_;refine tz 2 36 ?_;refine tz 3 37 ?_;refine tz 4 38 ?_;refine tz 5 39 ?_;refine tz 6 40 ?_;refine tz 7 41 ?_;refine tz 8 42 ?_;refine tz 9 43 ?_;refine tz 10 44 ?_;refine tz 11 45 ?_;refine tz 12 46 ?_;refine tz 13 47 ?_;refine tz 14 48 ?_;refine tz 15 49 ?_;refine tz 16 50 ?_;refine tz 17 51 ?_;refine tz 18 52 ?_;refine tz 19 53 ?_;refine tz 20 54 ?_;refine tz 21 55 ?_;refine tz 22 56 ?_;refine tz 23 57 ?_;refine tz 24 58 ?_;refine tz 25 59 ?_;refine tz 26 60 ?_;refine tz 27 61 ?_;refine tz 28 62 ?_;refine tz 29 63 ?_;refine tz 30 64 ?_;refine tz 31 65 ?_;refine tz 32 66 ?_;refine tz 33 67 ?_;refine tz 34 68 ?_;refine tz 35 69 ?_;refine tz 36 70 ?_;refine tz 37 71 ?_;refine tz 38 72 ?_;refine tz 39 73 ?_;refine tz 40 74 ?_;refine tz 41 75 ?_;refine tz 42 76 ?_;refine tz 43 77 ?_;refine tz 44 78 ?_;refine tz 45 79 ?_;refine tz 46 80 ?_;refine tz 47 81 ?_;refine tz 48 82 ?_;refine tz 49 83 ?_;refine Zd ?_
     go_wp2_with fail
     go_roundw
     case rel =>
      refine ⟨hbl.drew,a+1,by omega,by go_num,fun a' b h1 h2=>?_⟩
      by_cases ea:a'=a
      · subst ea
        rw [HC'.out] at h2
        cases h2
        exact HKN.out
      · exact HNE.out a' b (by omega) h2
     case measure=>simp [intOf];omega
   have e0:(x' == x)=true:=by simpa using h0
   have e1:(y' == y)=true:=by simpa using h1
   have e2:(z' == z)=true:=by simpa using h2
   have e3:(u' == u)=true:=by simpa using h3
   have hst:=Qrl (N:=N) HE.out.symm haj HC'.out (show Chn.key (x',y',z',u',v')=Chn.key (x,y,z,u,v) by simp only [Chn.key];rw [h0,h1,h2,h3])
   obtain ⟨hji,hce⟩:=HV.out.here HC.out hj (by rw [hst];decide);rw [hst] at hce;subst hce;subst hji;have HPS9:=Zh (HP.out (by decide));have HNZ:(6:Int)≠0:=by decide
   have hR:=(HR1.out.below hbl HR1.out.lt).drew;clear h0 h1 h2 h3 hst
   go_wp2_with fail
   refine wp_region_held_drew (S:=fun V=>V=wr.drew) (by kernel_rfl) rfl (fun _=>?_);refine tz 0 34 ?_;refine tz 1 35 ?_;refine tz 2 36 ?_;refine tz 3 37 ?_;refine tz 4 38 ?_;refine tz 5 39 ?_;refine tz 6 40 ?_;refine tz 7 41 ?_;refine tz 8 42 ?_;refine tz 9 43 ?_;refine tz 10 44 ?_;refine tz 11 45 ?_;refine tz 12 46 ?_;refine tz 13 47 ?_;refine tz 14 48 ?_;refine tz 15 49 ?_;refine tz 16 50 ?_;refine tz 17 51 ?_;refine tz 18 52 ?_;refine tz 19 53 ?_;refine tz 20 54 ?_;refine tz 21 55 ?_;refine tz 22 56 ?_;refine tz 23 57 ?_;refine tz 24 58 ?_;refine tz 25 59 ?_;refine tz 26 60 ?_;refine tz 27 61 ?_;refine tz 28 62 ?_;refine tz 29 63 ?_;refine tz 30 64 ?_;refine tz 31 65 ?_;refine tz 32 66 ?_;refine tz 33 67 ?_;refine tz 34 68 ?_;refine tz 35 69 ?_;refine tz 36 70 ?_;refine tz 37 71 ?_;refine tz 38 72 ?_;refine tz 39 73 ?_;refine tz 40 74 ?_;refine tz 41 75 ?_;refine tz 42 76 ?_;refine tz 43 77 ?_;refine tz 44 78 ?_;refine tz 45 79 ?_;refine tz 46 80 ?_;refine tz 47 81 ?_;refine tz 48 82 ?_;refine tz 49 83 ?_;refine Zd ?_;have hb:=hb.drew;have hz:w.heap.size≤(w.heap.size+1):=HRB.out;clear e0 e1 e2 e3 k1 k2 k3 k4 m1 m2 m3 m4
   go_wp2_with fail
   with_reducible refine (Qqu _ _ _ _).mono ?_
   rintro e w3 ⟨A4,n4,m4,rfl,h4,hA4,h5,hb3⟩;have hB3:=hR.below hb3 hR.lt;obtain ⟨d0,d1,f0,f1⟩:=hB3.two;have hbw3:=Zb hb hb3;have HW:=Zh ((h4.setFar (w.heap.size+1) 0 (.slice A4 n4 m4) (fun b e=>⟨by have:=(hA4 b e).1;have:=hR.lt;omega,(hA4 b e).2⟩)).setFar (w.heap.size+1) 1 (.int .i64 6) (fun b e=>⟨by have:=(hA4 b e).1;have:=hR.lt;omega,by simpa using (hA4 b e).2⟩));have hbw4:Below w.heap.size w ((w3.setCell ⟨w.heap.size+1,0,none⟩ (.slice A4 n4 m4)).setCell ⟨w.heap.size+1,1,none⟩ (.int .i64 6)):=(hbw3.setCell (by simp only;omega) _).setCell (by simp only;omega) _;clear h4 hA4 hb3
   go_wp2_with fail
   refine bodyPost_ret (v:=.agg #[.slice A4 n4 m4,.int .i64 6]) (by simp [results,results21,go_sem,d0,d1]) rfl ?_;exact ⟨⟨_,_,_,rfl,fun _=>by first|exact HW.out|(rw [HPS9.out];exact HW.out),fun h0=>absurd h0 HNZ,h5⟩,hbw4⟩
theorem Qry {n:Nat} {p:Option (List Int)} {l:List Int} (h:Qer n p l=0):Qfj n l∧∀ q,p=some q→Qds q l:=by
 unfold Qer at h
 split at h
 · cases h
 · split at h
   · assumption
   · cases h
set_option maxHeartbeats 2000000 in
set_option maxRecDepth 20000 in
theorem Qns (Q:Option Addr)(n L cq:Nat) (ls:List (List Int)) (w:World) (h:RdT w Q L ls) :
 Calls prog 73 #[.int .i64 n,.agg #[.slice Q L cq],.slice none 0 0] w fun e w'=>Qbp (Qbw n ls) e∧Below w.heap.size w w':=by
 have HT:=Zh h;clear h
 by_cases q0:(n:Int) > 4096
 · go_enter func73,ntmps73
   go_wp2_with fail
   (refine Qac ?_;intro w5 hw5)
   have hB5:Blk w5 (w.heap.size+1) 48 #[.slice none 0 0,.int .i64 0]:=by rw [hw5];exact Qaz
   have hb5:Below w.heap.size w w5:=by rw [hw5];exact Qaf
   clear hw5;with_reducible refine (Qau _ _ _ _).mono ?_
   rintro e w2 ⟨⟨A4,n4,m4,rfl,hg4⟩,hb⟩;have hB2:=Blk.below hB5 hb hB5.lt;obtain ⟨c0,c1,f0,f1⟩:=hB2.two;have hb2:Below w.heap.size w w2:=Zb hb5 hb
   go_wp2_with fail
   refine bodyPost_ret (v:=.agg #[.slice A4 n4 m4,.int .i64 4]) (by simp [results,results73,go_sem,c0,c1]) rfl ?_
   first | exact ⟨Qbp.no (by decide),Qaf⟩ | exact ⟨Qcp.no (Wg.mono (B:=w5.heap.size) (Wg.setCell (Wg.setCell hg4 hB5.lt _) hB5.lt _) hb5.size) (by decide),Qaf⟩
 by_cases q1:(L:Int) > 6
 · go_enter func73,ntmps73
   go_wp2_with fail
   (refine Qac ?_;intro w5 hw5)
   have hB5:Blk w5 (w.heap.size+1) 48 #[.slice none 0 0,.int .i64 0]:=by rw [hw5];exact Qaz
   have hb5:Below w.heap.size w w5:=by rw [hw5];exact Qaf
   clear hw5;with_reducible refine (Qau _ _ _ _).mono ?_
   rintro e w2 ⟨⟨A4,n4,m4,rfl,hg4⟩,hb⟩;have hB2:=Blk.below hB5 hb hB5.lt;obtain ⟨c0,c1,f0,f1⟩:=hB2.two;have hb2:Below w.heap.size w w2:=Zb hb5 hb
   go_wp2_with fail
   refine bodyPost_ret (v:=.agg #[.slice A4 n4 m4,.int .i64 4]) (by simp [results,results73,go_sem,c0,c1]) rfl ?_
   first | exact ⟨Qbp.no (by decide),Qaf⟩ | exact ⟨Qcp.no (Wg.mono (B:=w5.heap.size) (Wg.setCell (Wg.setCell hg4 hB5.lt _) hB5.lt _) hb5.size) (by decide),Qaf⟩
 by_cases q2:L=0
 · have j1:((L:Int) == 0)=true:=by simp;exact q2
   go_enter func73,ntmps73
   go_wp2_with fail
   (refine Qac ?_;intro w5 hw5)
   have hB5:Blk w5 (w.heap.size+1) 48 #[.slice none 0 0,.int .i64 0]:=by rw [hw5];exact Qaz
   have hb5:Below w.heap.size w w5:=by rw [hw5];exact Qaf
   clear hw5;with_reducible refine (Qau _ _ _ _).mono ?_
   rintro e w2 ⟨⟨A4,n4,m4,rfl,hg4⟩,hb⟩;have hB2:=Blk.below hB5 hb hB5.lt;obtain ⟨c0,c1,f0,f1⟩:=hB2.two;have hb2:Below w.heap.size w w2:=Zb hb5 hb
   go_wp2_with fail
   refine bodyPost_ret (v:=.agg #[.slice A4 n4 m4,.int .i64 1]) (by simp [results,results73,go_sem,c0,c1]) rfl ?_
   first | exact ⟨Qbp.no (by decide),Qaf⟩ | exact ⟨Qcp.no (Wg.mono (B:=w5.heap.size) (Wg.setCell (Wg.setCell hg4 hB5.lt _) hB5.lt _) hb5.size) (by decide),Qaf⟩
 have j1:((L:Int) == 0)=false:=by simp;exact q2
 go_enter func73,ntmps73
 go_wp2_with fail
 (refine Qag ?_;intro w1 hw1)
 have hb1:Below w.heap.size w w1:=by rw [hw1];exact Qaf
 have hQ:Blk w1 w.heap.size 29 #[.slice Q L cq]:=by rw [hw1];exact Qaz
 have hB:Blk w1 (w.heap.size+1) 48 #[.slice none 0 0,.int .i64 0]:=by rw [hw1];exact Qaz
 clear hw1
 go_loopw [7] (fun q W=>Below w.heap.size w W∧Blk W w.heap.size 29 #[.slice Q L cq]∧Blk W (w.heap.size+1) 48 #[.slice none 0 0,.int .i64 0]∧∃ i:Nat,i≤L∧q=.int .i64 ((i:Int)+1)∧∀ (j:Nat) (l:List Int),j<i→ls[j]?=some l→Qfj n l∧∀ q,Qfk ls j=some q→Qds q l) (fun q _=>L+1-(intOf q).toNat)
 case atStart=>exact ⟨hb1,hQ,hB,0,Nat.zero_le _,rfl,fun _ _ h=>absurd h (Nat.not_lt_zero _)⟩
 case round =>
  clear hb1 hQ hB;obtain ⟨hbl,hQ,hB,i,hi,rfl,hall⟩:=hrel;have HA:=Zh hall;clear hall;have y0:=hQ.cell 0;simp only [Yo,Yn] at y0
  by_cases hlt:i<L
  · obtain ⟨l,hl⟩:∃ l,ls[i]?=some l:=⟨_,Zg (by rw [HT.out.1];exact hlt)⟩
    have HCL:=Zh (Qlj Q n L cq i ls l wr (HT.out.below hbl) hl (by omega) (by omega) (fun j p e hp=>(HA.out j p (by omega) hp).1.len));have HLL:=Zh hl;have HI:=Zh (@Qry n (Qfk ls i) l);have i1:(i:Int)+1≤(L:Int):=by omega
    clear hl;generalize Qer n (Qfk ls i) l=code at *
    go_wp2_with fail
    with_reducible refine HCL.out.mono ?_
    rintro e w2 ⟨rfl,hb2⟩;have hQ2:=hQ.below hb2 hQ.lt;have hB2:=hB.below hb2 hB.lt;have hbw2:=Zb hbl hb2;clear hQ hB y0 HCL hb2
    by_cases hc:code=0
    · subst hc
      have HO:=Zh (HI.out rfl);clear HI
      go_wp2_with fail
      go_roundw
      case rel=>exact ⟨hbw2,hQ2,hB2,i+1,by omega,by go_num,fun j l' hj hl'=>by
       by_cases e:j=i
       · subst e
         rw [HLL.out] at hl'
         cases hl'
         exact HO.out
       · exact HA.out j l' (by omega) hl'⟩
      case measure=>simp [intOf];omega
    · have e1:(code == 0)=false:=by simpa using hc
      have e2:(code != 0)=true:=by simpa using hc
      have HC:=Zh hc;clear hc
      go_wp2_with fail
      with_reducible refine (Qau _ _ _ _).mono ?_
      rintro e w3 ⟨⟨A4,n4,m4,rfl,hg4⟩,hb3⟩;have hB3:=hB2.below hb3 hB2.lt;obtain ⟨c0,c1,f0,f1⟩:=hB3.two;have hbw3:=Zb hbw2 hb3
      go_wp2_with fail
      refine bodyPost_ret (v:=.agg #[.slice A4 n4 m4,.int .i64 code]) (by simp [results,results73,go_sem,c0,c1]) rfl ?_;exact ⟨Qbp.no HC.out,Qaf⟩
  · obtain rfl:L=i:=by omega
    obtain ⟨c0,c1,f0,f1⟩:=hB.two;have zB:=hB.lt
    have HP:=Zh (show Qbw n ls from ⟨by rw [HT.out.1];omega,by rw [HT.out.1];omega,fun l hl=>by
     obtain ⟨j,hj⟩:=Yr hl;exact (HA.out j l (by rw [←HT.out.1];exact (Zs hj).1) hj).1,fun j p l hp hl=>(HA.out (j+1) l (by rw [←HT.out.1];exact (Zs hl).1) hl).2 p (by rw [Qgx];exact hp)⟩)
    clear HA
    go_wp2_with fail
    refine bodyPost_ret (v:=.agg #[.slice none 0 0,.int .i64 0]) (by simp [results,results73,go_sem,c0,c1]) rfl ?_;exact ⟨⟨_,_,_,_,rfl,.inl ⟨rfl,HP.out⟩⟩,Qaf⟩
structure FewP (ls:List (List Int)):Prop where
 l:ls.length≤10
 r:∀ l∈ls,l.length≤60
set_option maxHeartbeats 1000000 in
theorem fewP_any (Q:Option Addr)(L cq:Nat) (ls:List (List Int)) (w:World) (h:RdT w Q L ls) (hL:L≤9223372036854775807) :
 Calls prog 72 #[.agg #[.slice Q L cq]] w fun e w'=>Qij (FewP ls) e∧Below w.heap.size w w':=by
 have HT:=Zh h;have HLE:=Zh h.1;clear h
 go_enter func72,ntmps72
 go_wp2_with fail
 (refine Qag ?_;intro w1 hw1)
 have hb1:Below w.heap.size w w1:=by rw [hw1];exact Qaf
 have hQ:Blk w1 w.heap.size 29 #[.slice Q L cq]:=by rw [hw1];exact Qaz
 have H1:=Zh (HT.out.below hb1);clear hw1;have y0:=hQ.cell 0;simp only [Yo,Yn] at y0
 go_loop [3] (fun q=>∃ i:Nat,i≤L∧q=.int .i64 i∧∀ j l,j<i→ls[j]?=some l→l.length≤60) (fun q=>L-(intOf q).toNat)
 case atStart=>exact ⟨0,Nat.zero_le _,rfl,fun _ _ h=>absurd h (Nat.not_lt_zero _)⟩
 case round =>
  obtain ⟨i,hi,rfl,hall⟩:=hrel;have HA:=Zh hall;clear hall
  by_cases hlt:i<L
  · obtain ⟨b,o,A,n,c,l,rfl,hl,hc,hr,q1,q2⟩:=H1.out.at_ hlt
    have i1:(0:Int)≤(i:Int):=by omega
    have i2:(i:Int)<(L:Int):=by omega
    have HLL:=Zh hl;have HR:=Zh hr.1;clear hl hr
    by_cases q3:(n:Int) > 60
    · go_wp2_with fail
      go_ret
      exact ⟨⟨false,rfl,fun h=>by cases h⟩,hb1⟩
    · go_wp2_with fail
      go_round
      case rel=>exact ⟨i+1,by omega,by go_num,fun j l' hj hl'=>by
       by_cases e:j=i
       · subst e
         rw [HLL.out] at hl'
         cases hl'
         rw [HR.out];omega
       · exact HA.out j l' (by omega) hl'⟩
      case measure=>simp [intOf];omega
  · obtain rfl:L=i:=by omega
    go_wp2_with fail
    go_ret
    refine ⟨⟨_,rfl,fun h=>⟨by rw [HLE.out];have:=of_decide_eq_true h;omega,fun l hl=>?_⟩⟩,hb1⟩;obtain ⟨j,hj⟩:=Yr hl;exact HA.out j l (by rw [←HLE.out];exact (Zs hj).1) hj
set_option maxHeartbeats 1000000 in
theorem Qwx (Q:Option Addr)(n L cq:Nat) (ls:List (List Int)) (w:World) (h:RdT w Q L ls) (hL:L≤9223372036854775807) :
 Calls prog 34 #[.int .i64 n,.agg #[.slice Q L cq]] w fun e w'=>Qij (FewP ls∧n≤60∧Qbw n ls) e∧Below w.heap.size w w':=by
 have HT:=Zh h;clear h
 go_enter func34,ntmps34
 go_wp2_with fail
 (refine Qac ?_;intro w1 hw1)
 have hb1:Below w.heap.size w w1:=by rw [hw1];exact Qaf
 have hQ:Blk w1 w.heap.size 29 #[.slice Q L cq]:=by rw [hw1];exact Qaz
 clear hw1;with_reducible refine (fewP_any Q L cq ls w1 (HT.out.below hb1) hL).mono ?_
 rintro e w2 ⟨⟨bb,rfl,hf⟩,hb2⟩;have hbw2:=Zb hb1 hb2;have y0:=(hQ.below hb2 hQ.lt).cell 0;simp only [Yo,Yn] at y0;clear hQ hb2
 cases bb
 · go_wp2_with fail
   go_ret
   exact ⟨⟨false,rfl,fun h=>by cases h⟩,hbw2⟩
 have HF:=Zh (hf rfl);clear hf
 by_cases q0:(n:Int)≤60
 rotate_left
 · go_wp2_with fail
   go_ret
   exact ⟨⟨false,rfl,fun h=>by cases h⟩,hbw2⟩
 go_wp2_with fail
 with_reducible refine (Qns Q n L cq ls w2 (HT.out.below hbw2)).mono ?_
 rintro e w3 ⟨⟨A4,k4,c4,x,rfl,hx⟩,hb3⟩;have hbw3:=Zb hbw2 hb3;have hfe:=Qtk A4 k4 c4 x w3;clear y0
 rcases hx with ⟨rfl,hG⟩|hx
 · have HG:=Zh hG
   clear hG
   go_wp2_with fail
   go_ret
   exact ⟨⟨true,rfl,fun _=>⟨HF.out,by omega,HG.out⟩⟩,hbw3⟩
 · go_wp2_with fail
   go_ret
   exact ⟨⟨_,rfl,fun h=>absurd (by simpa using h) hx⟩,hbw3⟩
structure MayOk (N:Qai) (ls:List (List Int)):Prop where
 small:Qyp N
 few:FewP ls
 part:Qbw N.vs.length ls
set_option maxHeartbeats 1000000 in
theorem Qxu (A B C Q:Option Addr)(n m k c d e L cq:Nat)(N:Qai) (ls:List (List Int)) (w:World) (h:Qbc w A B C n m k N) (hk:k≤9223372036854775807) (hq:RdT w Q L ls) (hL:L≤9223372036854775807) :
 Calls prog 9 #[.agg #[.slice A n c,.slice B m d,.slice C k e],.agg #[.slice Q L cq]] w fun e w'=>Qij (MayOk N ls) e∧Below w.heap.size w w':=by
 have HH:=Zh h;have HT:=Zh hq;have HLV:=Zh h.1.1;clear h hq
 go_enter func9,ntmps9
 go_wp2_with fail
 (refine Qac ?_;intro w1 hw1)
 have hb1:Below w.heap.size w w1:=by rw [hw1];exact Qaf
 have hN:Blk w1 w.heap.size 26 #[.slice A n c,.slice B m d,.slice C k e]:=by rw [hw1];exact Qaz
 have hQ:Blk w1 (w.heap.size+1) 29 #[.slice Q L cq]:=by rw [hw1];exact Qaz
 clear hw1;with_reducible refine (Qwf A B C n m k c d e N w1 (HH.out.below hb1) hk).mono ?_
 rintro r w2 ⟨⟨bb,rfl,hf⟩,hb2⟩;have hbw2:=Zb hb1 hb2;have y0:=(hQ.below hb2 hQ.lt).cell 0;simp only [Yo,Yn] at y0;obtain ⟨n0,n1,n2⟩:=(hN.below hb2 hN.lt).three;clear hQ hb2 hN
 cases bb
 · go_wp2_with fail
   go_ret
   exact ⟨⟨false,rfl,fun h=>by cases h⟩,hbw2⟩
 have HF:=Zh (hf rfl);clear hf
 go_wp2_with fail
 with_reducible refine (Qwx Q n L cq ls w2 (HT.out.below hbw2) hL).mono ?_
 rintro r w3 ⟨⟨bb,rfl,hf⟩,hb3⟩;have HF2:=Zh hf;have hbw3:=Zb hbw2 hb3;clear hf
 go_wp2_with fail
 go_ret
 exact ⟨⟨bb,rfl,fun h=>⟨HF.out,(HF2.out h).1,by rw [HLV.out];exact (HF2.out h).2.2⟩⟩,hbw3⟩
theorem sumA_few {N:Qai} {ls:List (List Int)} (h:MayOk N ls):Qbr (gatesOf N.ar ls)≤1000000000:=by
 have hA:=h.small.a;have hv:=h.small.v;have h6:=h.part.l6
 have hx:∀ x∈(gatesOf N.ar ls).map Qda,x≤194400:=fun z hz=>by
  obtain ⟨row,hr,rfl⟩:=List.mem_map.1 hz;obtain ⟨l,hl,rfl⟩:=List.mem_map.1 hr
  have hm:∀ y∈(gateRow N.ar l).map szG,y≤8100:=fun y hy=>by
   obtain ⟨x,hx,rfl⟩:=List.mem_map.1 hy;obtain ⟨c,hc⟩:=Yr hx;have g:=Qbn hc;unfold szG;have:=Nat.mul_le_mul (show x.1.length≤90 by omega) (show x.2.length≤90 by omega)
   omega
  have h1:=Qtr hm;have h2:=h.part.lvl l hl;have h3:=Qbq (l:=l) (n:=(N.vs.length:Int)) (fun x hx=>h2.hi x hx) (by omega);rw [List.length_map,Qaq] at h1;have h4:(Qaj l).toNat*8100≤24*8100:=Nat.mul_le_mul_right _ (by omega);unfold Qda;omega
 have h1:=Qtr hx;rw [List.length_map,show (gatesOf N.ar ls).length=ls.length by simp [gatesOf]] at h1
 have h4:ls.length*194400≤6*194400:=Nat.mul_le_mul_right _ (by omega);unfold Qbr;omega
theorem may_lv {N:Qai} {ls:List (List Int)} (h:MayOk N ls):ls.length≤6∧(∀ l∈ls,(Qaj l).toNat≤4096)∧N.ar.length≤1000000:=by
 have h1:=h.small.ok.lv;have h2:=h.small.ok.la;refine ⟨h.part.l6,fun l hl=>?_,by omega⟩;have h3:=h.part.lvl l hl;have h4:=Qbq (l:=l) (n:=(N.vs.length:Int)) (fun x hx=>h3.hi x hx) (by omega);omega
theorem tb_rows {N:Qai} {ls:List (List Int)} (h:MayOk N ls) (f:Nat→Nat→Bool):∀ r∈tb ls f,r.length≤4096:=fun r hr=>by
 obtain ⟨i,hi⟩:=Yr hr;have hl:=(Zs hi).1;rw [Qfy] at hl;have h2:=Zg hl;have h3:=Qei (f:=f) h2;rw [hi] at h3
 cases h3
 rw [List.length_map,List.length_range];exact (may_lv h).2.1 _ (Zm h2)
structure MdS (W:World) (F G:Nat→Prop) (g o:Nat) (N:Qai) (ls:List (List Int)) (NC:Nat):Prop where
 go:GO W F G g o N ls
 part:Qbw N.vs.length ls
 nc:NC=Qbr (gatesOf N.ar ls)
 n9:NC≤1000000000
theorem MdS.below {W W':World}{F G:Nat→Prop}{g o NC:Nat}{N:Qai} {ls:List (List Int)} (h:MdS W F G g o N ls NC) (hb:Below W.heap.size W W'):MdS W' F G g o N ls NC:=⟨h.go.below hb,h.part,h.nc,h.n9⟩
theorem MdS.keep {W W':World}{F G K:Nat→Prop}{g o NC:Nat}{N:Qai} {ls:List (List Int)} (h:MdS W F G g o N ls NC) (hK:Qax (fun b=>¬K b) W W') (hz:W.heap.size≤W'.heap.size) (hF:∀ b,F b→¬K b) (hG:∀ b,G b→¬K b):MdS W' F G g o N ls NC :=
 ⟨⟨h.go.gr.keep hz (hK.mono hF),h.go.ov.le (hK.mono hG).msk,h.go.dis,fun b hb=>Yu (h.go.lt b hb) hz⟩,h.part,h.nc,h.n9⟩
def AllQ (w:World)(N:Qai) (ls:List (List Int)) (NC:Nat) (r:Ending) (w':World):Prop :=
 ∃ (B:Nat) (cl:List Int),r=.returned (.slice (some ⟨B,0,none⟩) NC NC)∧w.heap.size≤B∧Blk w' B 2 (Qad cl).toArray∧Qfd N ls cl∧Below w.heap.size w w'
theorem allQ_ok (w:World)(F G:Nat→Prop)(g o:Nat)(N:Qai) (ls:List (List Int)) (NC:Nat) (h:MdS w F G g o N ls NC):Calls prog 18 #[.pointer (some ⟨g,0,none⟩),.pointer (some ⟨o,0,none⟩)] w (AllQ w N ls NC):=by
 refine (all_ok w g o N ls h.go.gr.rd h.go.gr.ok h.go.ovR h.part (by rw [←h.nc];exact h.n9)).mono ?_;rintro r w' ⟨B,cl,e,hz,hB,hcl,_,hd,hb⟩;rw [←h.nc] at e;exact ⟨B,cl,e,hz,hB,hd.all hcl,hb⟩
theorem Qye:(Tryz.prog.info? 138).map (fun i=>(i.zero,i.size,i.bytes))=some (some (.agg #[.int .i64 0,.int .i64 0,.int .i64 0]),3,24):=by kernel_rfl
theorem infoArcR:(Tryz.prog.info? 73).map (fun i=>(i.zero,i.size,i.bytes))=some (some (.agg #[.int .i64 0,.int .i64 0,.int .i64 0]),3,24):=by kernel_rfl
theorem Quj:(Tryz.prog.info? 75).map (fun i=>(i.zero,i.size,i.bytes))=some (some (.agg #[.int .i64 0,.int .i64 0,.slice none 0 0]),3,40):=by kernel_rfl
set_option maxHeartbeats 1000000 in
theorem Qws (A:Option Addr)(n c:Nat)(i o:Int)(w:World) :
 Calls prog 97 #[.agg #[.int .i64 i,.int .i64 o,.slice A n c]] w fun e w'=>e=.returned (.agg #[.int .i64 i,.int .i64 o,.slice A n c])∧Below w.heap.size w w':=by
 go_enter func97,ntmps97
 go_wp2_with fail
 refine bodyPost_ret (v:=.agg #[.int .i64 i,.int .i64 o,.slice A n c]) (by simp [results,results97,go_sem]) rfl ?_;exact ⟨rfl,Qaf⟩
theorem RdK.grownE {k:IntKind}{w w':World}{A:Option Addr}{n:Nat}{l:List Int}{r:Option Nat}(h:RdK k w A n l)(hg:w.grownBy w' r)(hne:0<n→∀ g,Qaa A=some g→r≠some g):RdK k w' A n l:=by
 rcases Nat.eq_zero_or_pos n with h0|h0
 · refine ⟨h.1,fun i x hx=>?_⟩
   have:=(Zs hx).1;have:=h.1;omega
 · exact h.grownN hg (hne h0)
def YwE (W:World)(E B:Nat)(A:Option Addr)(n c:Nat)(xs:List Value)(ls:List Qby):Prop :=
 Own W B 75 3 A n c xs∧ls.length=n∧∀ j t,ls[j]?=some t→∃ A2 n2 c2,xs[j*3]?=some (.int .i64 t.ins)∧xs[j*3+1]?=some (.int .i64 t.outs)∧xs[j*3+2]?=some (.slice A2 n2 c2)∧RdI W A2 n2 t.costs∧(0<n2→∀ g,Qaa A2=some g→g<E)∧n2≤c2∧c2≤9223372036854775807
theorem YwE.nil (W:World)(E B:Nat):YwE W E B none 0 0 [] []:=⟨Own.nil _ _ _ _,rfl,fun j l h=>by simp at h⟩
theorem YwE.rdY {W:World}{E B n c:Nat}{A:Option Addr}{xs:List Value}{ls:List Qby}(h:YwE W E B A n c xs ls):RdY W A n ls :=
 ⟨h.2.1,fun i t ht=>by
  obtain ⟨A2,n2,c2,h1,h2,h3,h4,_,h5,h6⟩:=h.2.2 i t ht;obtain ⟨b,o,e,k1⟩:=h.1.rds.2 _ _ h1;obtain ⟨b',o',e',k2⟩:=h.1.rds.2 _ _ h2;rw [e] at e';cases e'
  obtain ⟨b',o',e',k3⟩:=h.1.rds.2 _ _ h3;rw [e] at e';cases e'
  exact ⟨b,o,e,k1,by rw [Nat.add_assoc];exact k2,A2,n2,c2,by rw [Nat.add_assoc];exact k3,h4,h5,h6⟩⟩
theorem YwE.push {W w':World}{E B n c c' m d:Nat}{A A' R:Option Addr}{xs:List Value}{ls:List Qby}{t:Qby}(h:YwE W E B A n c xs ls)(hEB:E≤B)
 (hown:Own w' B 75 3 A' (n+1) c' (xs ++[.int .i64 t.ins,.int .i64 t.outs,.slice R m d])) (hg:W.grownBy w' (Qaa A))
 (hr:RdI W R m t.costs) (hne:0<m→∀ g,Qaa R=some g→g<E) (h4:m≤d) (h5:d≤9223372036854775807):YwE w' E B A' (n+1) c' (xs ++[.int .i64 t.ins,.int .i64 t.outs,.slice R m d]) (ls ++[t]):=by
 have hxl:xs.length=ls.length*3:=by rw [h.1.1,h.2.1]
 have hA:∀ g,g<E→Qaa A≠some g:=fun g hg e=>by have:=(h.1.lt g e).1;omega
 refine ⟨hown,by simp [h.2.1],fun j t' hl=>?_⟩
 rcases Nat.lt_trichotomy j ls.length with hj|hj|hj
 · rw [Yc hj] at hl
   obtain ⟨A2,n2,c2,p1,p2,p3,k2,k3,k4,k5⟩:=h.2.2 j t' hl;exact ⟨A2,n2,c2,by rw [Yc (by omega)];exact p1,by rw [Yc (by omega)];exact p2,by rw [Yc (by omega)];exact p3,k2.grownE hg (fun h0 g e=>hA g (k3 h0 g e)),k3,k4,k5⟩
 · subst hj
   rw [Yb (Zn _),Yy] at hl
   cases hl
   refine ⟨R,m,d,?_,?_,?_,hr.grownE hg (fun h0 g e=>hA g (hne h0 g e)),hne,h4,h5⟩
   · rw [←hxl,Yb (Zn _),Yy];rfl
   · rw [←hxl,Yb (by omega),Nat.add_sub_cancel_left];rfl
   · rw [←hxl,Yb (by omega),Nat.add_sub_cancel_left];rfl
 · rw [Yd (by simp;omega)] at hl
   cases hl
theorem YwE.below {W W':World}{E B n c:Nat}{A:Option Addr}{xs:List Value}{ls:List Qby}(h:YwE W E B A n c xs ls)(hb:Below W.heap.size W W'):YwE W' E B A n c xs ls :=
 ⟨h.1.below hb,h.2.1,fun i l hl=>by
  obtain ⟨A',n',c',p1,p2,p3,h2,h3,h4,h5⟩:=h.2.2 i l hl;exact ⟨A',n',c',p1,p2,p3,h2.below hb,h3,h4,h5⟩⟩
theorem YwE.far {W W':World}{E B n c:Nat}{A:Option Addr}{xs:List Value}{ls:List Qby}(h:YwE W E B A n c xs ls){g:Nat} (hg:W.grownBy W' (some g)) (hE:E≤g) (hB:g<B):YwE W' E B A n c xs ls :=
 ⟨h.1.far hg (.inr (fun e=>by have:=(h.1.lt g e).1;omega)),h.2.1,fun i l hl=>by
  obtain ⟨A',n',c',p1,p2,p3,h2,h3,h4,h5⟩:=h.2.2 i l hl;refine ⟨A',n',c',p1,p2,p3,h2.grownE hg (fun h0 k hk e=>?_),h3,h4,h5⟩
  cases e
  have:=h3 h0 g hk;omega⟩
set_option maxHeartbeats 1000000 in
set_option maxRecDepth 20000 in
theorem Qxa (A B C:Option Addr)(n m k c d e:Nat)(N:Qai)(w:World)(h:Qbc w A B C n m k N)(hn:n≤1000000)(hm:m≤1000000)(hk:k≤1000000)(hc:∀ t∈N.ts,t.costs.length≤1000000) :
 Calls prog 54 #[.agg #[.slice A n c,.slice B m d,.slice C k e]] w fun r w'=>∃ A' B' C' c' d' e',r=.returned (.agg #[.slice A' n c',.slice B' m d',.slice C' k e'])∧Qbc w' A' B' C' n m k N∧Below w.heap.size w w':=by
 have HV:=Zh h.1;have HA:=Zh h.2.1;have HY:=Zh h.2.2;have HC:=Zh hc;clear h hc
 go_enter func54,ntmps54
 go_wp2_with fail
 (refine Qag ?_;intro w1 hw1)
 have hb1:Below w.heap.size w w1:=by rw [hw1];exact Qaf
 have hJ:Blk w1 w.heap.size 120 #[.slice A n c,.slice B m d,.slice C k e]:=by rw [hw1];exact Qaz
 have hR:Blk w1 (w.heap.size+1) 26 #[.slice none 0 0,.slice none 0 0,.slice none 0 0]:=by rw [hw1];exact Qaz
 have hK0:Blk w1 (w.heap.size+2) 26 #[.slice none 0 0,.slice none 0 0,.slice none 0 0]:=by rw [hw1];exact Qaz
 clear hw1
 go_loopw [4] (fun i W=>Below w.heap.size w W∧Blk W w.heap.size 120 #[.slice A n c,.slice B m d,.slice C k e]∧Blk W (w.heap.size+1) 26 #[.slice none 0 0,.slice none 0 0,.slice none 0 0]∧∃ (j:Nat) (A3:Option Addr) (c3:Nat),j≤n∧i=.int .i64 j∧Blk W (w.heap.size+2) 26 #[.slice A3 j c3,.slice none 0 0,.slice none 0 0]∧Own W (w.heap.size+3) 138 3 A3 j c3 (Qap (N.vs.take j))) (fun i _=>n-(intOf i).toNat)
 case atStart=>exact ⟨hb1,hJ,hR,0,none,0,Nat.zero_le _,rfl,hK0,by simpa [Qap] using Own.nil _ _ _ _⟩
 case round =>
  clear hb1 hJ hR hK0;obtain ⟨hbl,hJ,hR,j,A3,c3,hj,rfl,hK0,hown⟩:=hrel;obtain ⟨j0,j1,j2⟩:=hJ.three;obtain ⟨k0,k1,k2⟩:=hK0.three
  by_cases hlt:j<n
  · obtain ⟨sb,so,x,y,z,rfl,hx,cx,cy,cz⟩:=HV.out.at_ hlt
    have HN:=Zh (Qff hx);have dx:=Zc hbl (Zn _) cx;have dy:=Zc hbl (Zn _) cy;have dz:=Zc hbl (Zn _) cz
    have HSX:=Zh (show ∀ V,Below (w.heap.size+2) wr V→V.cell? ⟨w.heap.size,0,none⟩=some (.slice (some ⟨sb,so,none⟩) n c)∧V.cell? ⟨sb,so+j*3,none⟩=some (.int .i64 x)∧V.cell? ⟨sb,so+j*3+1,none⟩=some (.int .i64 y)∧V.cell? ⟨sb,so+j*3+2,none⟩=some (.int .i64 z) from
     fun V hb=>⟨(hb.cell (by simp only;omega)).trans j0,(hb.cell (by have:=Qae cx;simp only at this ⊢;omega)).trans dx,(hb.cell (by have:=Qae cx;simp only at this ⊢;omega)).trans dy,(hb.cell (by have:=Qae cx;simp only at this ⊢;omega)).trans dz⟩)
    have i3:(0:Int)≤(j:Int):=by omega
    have i4:(j:Int)<(n:Int):=by omega
    have hsz:w.heap.size+3≤wr.heap.size:=by have:=hK0.lt;omega
    clear hx cx cy cz dx dy dz j1 j2 k0 k1 k2
    go_wp2_with fail
    refine wp_region_held_drew (S:=fun V=>Below (w.heap.size+2) wr V) (by kernel_rfl) (Zr _ _).drew (fun _=>?_);refine tz 0 14 ?_;refine tz 2 16 ?_;refine tz 3 17 ?_;refine tz 4 18 ?_;refine tz 5 19 ?_;refine tz 6 20 ?_;refine tz 7 21 ?_;refine tz 8 22 ?_;refine tz 9 23 ?_;refine tz 10 24 ?_;refine tz 11 25 ?_;refine tz 12 26 ?_;refine tz 13 27 ?_;refine tz 14 28 ?_;refine tz 15 29 ?_;refine tz 16 30 ?_;refine tz 17 31 ?_;refine tz 18 32 ?_;refine tz 19 33 ?_;refine tz 20 34 ?_;refine wpAnyH_ready (rs:=[1,21]) (by kernel_rfl) (by simp) ?_;refine AllReadyH.cons (o:=_) rfl (fun K hK=>?_) (AllReadyH.cons (o:=_) rfl (fun K hK=>?_) AllReadyH.nil)
    focus
     have k3a:=hK0.three;obtain ⟨k3a,k3b,k3c⟩:=k3a;go_simp;refine hK.out _ _ (Zr _ _).drew (fun _=>?_);clear hK K k3a k3b k3c;refine Zk 21 (fun K hK=>?_);go_simp;refine hK.out _ _ (((Zr _ _).alloc (by omega) _).drew) (fun _=>?_);clear hK K
    rotate_left
    focus
     go_simp;refine hK.out _ _ (((Zr _ _).alloc (by omega) _).drew) (fun _=>?_);clear hK K;have k3a:=fun o=>(hK0.alloc o).three.1
     have k3b:=fun o=>(hK0.alloc o).three.2.1
     refine Zk 1 (fun K hK=>?_);go_simp;refine hK.out _ _ (((Zr _ _).alloc (by omega) _).drew) (fun _=>?_);clear hK K k3a k3b
    all_goals
     have hW:∃ W,W=(wr.alloc (.cells #[.int .i64 x,.int .i64 y,.int .i64 z] 138)).drew:=⟨_,rfl⟩;obtain ⟨W,hW⟩:=hW;rw [←hW];have hownW:Own W (w.heap.size+3) 138 3 A3 j c3 (Qap (N.vs.take j)):=by rw [hW];exact (by repeat (first|assumption|apply Own.drewN|apply Own.drew|apply Own.alloc))
     skip
     have hrdW:Rds W 3 (some ⟨wr.heap.size,0,none⟩) 1 [.int .i64 x,.int .i64 y,.int .i64 z]:=by rw [hW];exact (Blk.new wr 138 #[.int .i64 x,.int .i64 y,.int .i64 z]).rds rfl
     have hbW:Below (w.heap.size+2) wr W:=by rw [hW];exact ((Zr _ _).alloc (by omega) _).drew
     have hblW:Below w.heap.size w W:=by rw [hW];exact Qaf
     have hJW:Blk W w.heap.size 120 #[.slice (some ⟨sb,so,none⟩) n c,.slice B m d,.slice C k e]:=by rw [hW];exact Qhc
     have hRW:Blk W (w.heap.size+1) 26 #[.slice none 0 0,.slice none 0 0,.slice none 0 0]:=by rw [hW];exact Qhc
     have hKW:Blk W (w.heap.size+2) 26 #[.slice A3 j c3,.slice none 0 0,.slice none 0 0]:=by rw [hW];exact Qhc
     have hWsz:(w.heap.size+3)≤W.heap.size:=by rw [hW];simp;omega
     clear hW;refine Zk 22 (fun K hK=>?_);with_reducible refine Qar (some 36) rfl rfl (.tmp 15) (.tmp 35) 22 rfl 138 _ 3 24 Qye underlying22 rfl (by omega) rfl rfl hownW hrdW (Qcn x y z) (by omega) (by omega) hWsz ?_
     intro A' c' w' hown' hg _;have hb5:Below (w.heap.size+2) wr w':=Zo hbW hg (hownW.mono (by omega)) (by omega);have hb6:Below w.heap.size w w':=Zo hblW hg (hownW.mono (by omega)) (by omega);have hJ':=hJW.grown hg (hownW.ne (by omega));have hR':=hRW.grown hg (hownW.ne (by omega));have hK':=hKW.grown hg (hownW.ne (by omega))
     skip
     clear hownW hrdW hbW hblW hJW hRW hKW hg;refine hK.out _ _ hb5 (fun _=>?_);clear hK K;simp only [Act.put,Yi,Yj,Yk];refine tz 23 37 ?_;have k3':=hK'.three;have kf':=hK'.frozen 0;obtain ⟨k3a,k3b,k3c⟩:=k3';refine Zk 24 (fun K hK=>?_);go_simp;refine hK.out _ _ (hb5.setCell (by simp only;omega) _) (fun _=>?_);clear hK K;refine Zd ?_;have HO:=Zh (hown'.far (Qab w' (w.heap.size+2) 0 (.slice A' (j+1) c')) (.inr (hown'.ne (by omega))));have HK2:=Zh (hK'.set_ 0 (.slice A' (j+1) c'))
     skip
     clear hown' hK' k3a k3b k3c kf'
     go_wp2_with fail
     go_roundw
     case rel=>exact ⟨Qaf,Qhc,Qhc,j+1,A',c',by omega,by go_num,HK2.out,by rw [HN.out];exact HO.out⟩
     case measure=>simp [intOf];omega
  · obtain rfl:n=j:=by omega
    obtain ⟨A1,rfl⟩:∃ A1,A1=A3:=⟨_,rfl⟩;obtain ⟨c1,rfl⟩:∃ c1,c1=c3:=⟨_,rfl⟩;rw [Ye (by rw [HV.out.1];exact Zn _)] at hown;obtain ⟨w2,hw2⟩:∃ w2,w2=wr:=⟨_,rfl⟩;subst hw2;have hz2:w.heap.size+3≤w2.heap.size:=by have:=hK0.lt;omega
    have HLT:=Zh (fun g hg=>(hown.lt g hg).2)
    go_wp2_with fail
    go_loopw [5] (fun i W=>w2.heap.size≤W.heap.size∧Below w.heap.size w W∧Blk W w.heap.size 120 #[.slice A n c,.slice B m d,.slice C k e]∧Blk W (w.heap.size+1) 26 #[.slice none 0 0,.slice none 0 0,.slice none 0 0]∧Own W (w.heap.size+3) 138 3 A1 n c1 (Qap N.vs)∧∃ (j:Nat) (A3:Option Addr) (c3:Nat),j≤m∧i=.int .i64 j∧Blk W (w.heap.size+2) 26 #[.slice A1 n c1,.slice A3 j c3,.slice none 0 0]∧Own W w2.heap.size 73 3 A3 j c3 (Qap (N.ar.take j))) (fun i _=>m-(intOf i).toNat)
    case atStart=>exact ⟨Zn _,hbl,hJ,hR,hown,0,none,0,Nat.zero_le _,rfl,hK0,by simpa [Qap] using Own.nil _ _ _ _⟩
    case round =>
     clear hbl hJ hR hown hK0 j0 j1 j2 k0 k1 k2 hj;obtain ⟨hszr,hbl,hJ,hR,hVo,j,A3,c3,hj,rfl,hK0,hown⟩:=hrel;obtain ⟨j0,j1,j2⟩:=hJ.three;obtain ⟨k0,k1,k2⟩:=hK0.three
     by_cases hlt:j<m
     · obtain ⟨sb,so,x,y,z,rfl,hx,cx,cy,cz⟩:=HA.out.at_ hlt
       have HN:=Zh (Qff hx);have dx:=Zc hbl (Zn _) cx;have dy:=Zc hbl (Zn _) cy;have dz:=Zc hbl (Zn _) cz
       have HSX:=Zh (show ∀ V,Below (w.heap.size+2) wr V→V.cell? ⟨w.heap.size,1,none⟩=some (.slice (some ⟨sb,so,none⟩) m d)∧V.cell? ⟨sb,so+j*3,none⟩=some (.int .i64 x)∧V.cell? ⟨sb,so+j*3+1,none⟩=some (.int .i64 y)∧V.cell? ⟨sb,so+j*3+2,none⟩=some (.int .i64 z) from
        fun V hb=>⟨(hb.cell (by simp only;omega)).trans j1,(hb.cell (by have:=Qae cx;simp only at this ⊢;omega)).trans dx,(hb.cell (by have:=Qae cx;simp only at this ⊢;omega)).trans dy,(hb.cell (by have:=Qae cx;simp only at this ⊢;omega)).trans dz⟩)
       have i3:(0:Int)≤(j:Int):=by omega
       have i4:(j:Int)<(m:Int):=by omega
       have hsz:w2.heap.size≤wr.heap.size:=hszr;clear hx cx cy cz dx dy dz j0 j2 k0 k1 k2
       go_wp2_with fail
       refine wp_region_held_drew (S:=fun V=>Below (w.heap.size+2) wr V) (by kernel_rfl) (Zr _ _).drew (fun _=>?_);refine tz 0 45 ?_;refine tz 2 47 ?_;refine tz 3 48 ?_;refine tz 4 49 ?_;refine tz 5 50 ?_;refine tz 6 51 ?_;refine tz 7 52 ?_;refine tz 8 53 ?_;refine tz 9 54 ?_;refine tz 10 55 ?_;refine tz 11 56 ?_;refine tz 12 57 ?_;refine tz 13 58 ?_;refine tz 14 59 ?_;refine tz 15 60 ?_;refine tz 16 61 ?_;refine tz 17 62 ?_;refine tz 18 63 ?_;refine tz 19 64 ?_;refine tz 20 65 ?_;refine wpAnyH_ready (rs:=[1,21]) (by kernel_rfl) (by simp) ?_;refine AllReadyH.cons (o:=_) rfl (fun K hK=>?_) (AllReadyH.cons (o:=_) rfl (fun K hK=>?_) AllReadyH.nil)
       focus
        have k3a:=hK0.three;obtain ⟨k3a,k3b,k3c⟩:=k3a;go_simp;refine hK.out _ _ (Zr _ _).drew (fun _=>?_);clear hK K k3a k3b k3c;refine Zk 21 (fun K hK=>?_);go_simp;refine hK.out _ _ (((Zr _ _).alloc (by omega) _).drew) (fun _=>?_);clear hK K
       rotate_left
       focus
        go_simp;refine hK.out _ _ (((Zr _ _).alloc (by omega) _).drew) (fun _=>?_);clear hK K;have k3a:=fun o=>(hK0.alloc o).three.1
        have k3b:=fun o=>(hK0.alloc o).three.2.1
        refine Zk 1 (fun K hK=>?_);go_simp;refine hK.out _ _ (((Zr _ _).alloc (by omega) _).drew) (fun _=>?_);clear hK K k3a k3b
       all_goals
        have hW:∃ W,W=(wr.alloc (.cells #[.int .i64 x,.int .i64 y,.int .i64 z] 73)).drew:=⟨_,rfl⟩;obtain ⟨W,hW⟩:=hW;rw [←hW];have hownW:Own W w2.heap.size 73 3 A3 j c3 (Qap (N.ar.take j)):=by rw [hW];exact (by repeat (first|assumption|apply Own.drewN|apply Own.drew|apply Own.alloc))
        have hVW:Own W (w.heap.size+3) 138 3 A1 n c1 (Qap N.vs):=by rw [hW];exact (by repeat (first|assumption|apply Own.drewN|apply Own.drew|apply Own.alloc))
        have hrdW:Rds W 3 (some ⟨wr.heap.size,0,none⟩) 1 [.int .i64 x,.int .i64 y,.int .i64 z]:=by rw [hW];exact (Blk.new wr 73 #[.int .i64 x,.int .i64 y,.int .i64 z]).rds rfl
        have hbW:Below (w.heap.size+2) wr W:=by rw [hW];exact ((Zr _ _).alloc (by omega) _).drew
        have hblW:Below w.heap.size w W:=by rw [hW];exact Qaf
        have hJW:Blk W w.heap.size 120 #[.slice A n c,.slice (some ⟨sb,so,none⟩) m d,.slice C k e]:=by rw [hW];exact Qhc
        have hRW:Blk W (w.heap.size+1) 26 #[.slice none 0 0,.slice none 0 0,.slice none 0 0]:=by rw [hW];exact Qhc
        have hKW:Blk W (w.heap.size+2) 26 #[.slice A1 n c1,.slice A3 j c3,.slice none 0 0]:=by rw [hW];exact Qhc
        have hWsz:w2.heap.size≤W.heap.size:=by rw [hW];simp;omega
        clear hW;refine Zk 22 (fun K hK=>?_);with_reducible refine Qar (some 67) rfl rfl (.tmp 46) (.tmp 66) 23 rfl 73 _ 3 24 infoArcR underlying23 rfl (by omega) rfl rfl hownW hrdW (Qcn x y z) (by omega) (by omega) hWsz ?_
        intro A' c' w' hown' hg _;have hb5:Below (w.heap.size+2) wr w':=Zo hbW hg (hownW.mono (by omega)) (by omega);have hb6:Below w.heap.size w w':=Zo hblW hg (hownW.mono (by omega)) (by omega);have hJ':=hJW.grown hg (hownW.ne (by omega));have hR':=hRW.grown hg (hownW.ne (by omega));have hK':=hKW.grown hg (hownW.ne (by omega));have hV':=hVW.far hg (Own.apart HLT.out hownW);clear hVW;clear hownW hrdW hbW hblW hJW hRW hKW hg;refine hK.out _ _ hb5 (fun _=>?_);clear hK K;simp only [Act.put,Yi,Yj,Yk];refine tz 23 68 ?_;have k3':=hK'.three;have kf':=hK'.frozen 1;obtain ⟨k3a,k3b,k3c⟩:=k3';refine Zk 24 (fun K hK=>?_);go_simp;refine hK.out _ _ (hb5.setCell (by simp only;omega) _) (fun _=>?_);clear hK K;refine Zd ?_;have HO:=Zh (hown'.far (Qab w' (w.heap.size+2) 1 (.slice A' (j+1) c')) (.inr (hown'.ne (by omega))));have HK2:=Zh (hK'.set_ 1 (.slice A' (j+1) c'));have HV2:=Zh (hV'.far (Qab w' (w.heap.size+2) 1 (.slice A' (j+1) c')) (.inr (hV'.ne (by omega))));clear hV';clear hown' hK' k3a k3b k3c kf'
        go_wp2_with fail
        go_roundw
        case rel=>exact ⟨(by have:=hb5.size;simp [World.setCell];omega),Qaf,Qhc,Qhc,HV2.out,j+1,A',c',by omega,by go_num,HK2.out,by rw [HN.out];exact HO.out⟩
        case measure=>simp [intOf];omega
     · obtain rfl:m=j:=by omega
       obtain ⟨A3',rfl⟩:∃ A3',A3'=A3:=⟨_,rfl⟩;obtain ⟨c3',rfl⟩:∃ c3',c3'=c3:=⟨_,rfl⟩;rw [Ye (by rw [HA.out.1];exact Zn _)] at hown;obtain ⟨w3,hw3⟩:∃ w3,w3=wr:=⟨_,rfl⟩;subst hw3;have HLV:=HLT;clear HLT;have HLT:=Zh (show ∀ g,Qaa A1=some g→g<w3.heap.size from fun g hg=>by have:=HLV.out g hg;omega)
       have HLA:=Zh (fun g hg=>(hown.lt g hg).2);clear HLV;have hz3:w.heap.size+3≤w3.heap.size:=by omega
       go_wp2_with fail
       go_loopw [6] (fun i W=>w3.heap.size≤W.heap.size∧Below w.heap.size w W∧Blk W w.heap.size 120 #[.slice A n c,.slice B m d,.slice C k e]∧Blk W (w.heap.size+1) 26 #[.slice none 0 0,.slice none 0 0,.slice none 0 0]∧Own W (w.heap.size+3) 138 3 A1 n c1 (Qap N.vs)∧Own W w2.heap.size 73 3 A3' m c3' (Qap N.ar)∧∃ (j:Nat) (C3:Option Addr) (e3:Nat) (xs:List Value),j≤k∧i=.int .i64 j∧Blk W (w.heap.size+2) 26 #[.slice A1 n c1,.slice A3' m c3',.slice C3 j e3]∧YwE W w.heap.size w3.heap.size C3 j e3 xs (N.ts.take j)) (fun i _=>k-(intOf i).toNat)
       case atStart=>exact ⟨Zn _,hbl,hJ,hR,hVo,hown,0,none,0,[],Nat.zero_le _,rfl,hK0,by simpa using YwE.nil _ _ _⟩
       case round =>
        clear hbl hJ hR hown hK0 j0 j1 j2 k0 k1 k2 hj hVo hszr;obtain ⟨hszr,hbl,hJ,hR,hVo,hAo,j,C3,e3,xs,hj,rfl,hK0,hown⟩:=hrel;obtain ⟨j0,j1,j2⟩:=hJ.three
        by_cases hlt:j<k
        · obtain ⟨sb,so,t,rfl,ht,cx,cy,TA,n',TC,cz,hr,hc1',hc2'⟩:=HY.out.at_ hlt
          have HRR:=Zh hr;have HC1:=Zh hc1';have HC2:=Zh hc2'
          have HLE:=Zh (show 0<n'→∀ g,Qaa TA=some g→g<w.heap.size from fun h0 g hg=>by
           obtain ⟨b,o',_,e,_,hcl⟩:=hr.at_ h0;rw [e] at hg
           cases hg
           have:=Qae hcl
           simpa using this)
          have HN:=Zh (show N.ts.take (j+1)=N.ts.take j ++[t] by
           rw [Yf (Zs ht).1,(Zs ht).2])
          have HTC:=Zh (show ∀ V,Below w.heap.size w V→Calls prog 97 #[.agg #[.int .i64 t.ins,.int .i64 t.outs,.slice TA n' TC]] V (fun e w'=>e=.returned (.agg #[.int .i64 t.ins,.int .i64 t.outs,.slice TA n' TC])∧Below V.heap.size V w') from fun V _=>Qws TA n' TC t.ins t.outs V)
          have dx:=Zc hbl (Zn _) cx;have dy:=Zc hbl (Zn _) cy;have dz:=Zc hbl (Zn _) cz
          have HSX:=Zh (show ∀ V,Below (w.heap.size+2) wr V→V.cell? ⟨w.heap.size,2,none⟩=some (.slice (some ⟨sb,so,none⟩) k e)∧V.cell? ⟨sb,so+j*3,none⟩=some (.int .i64 t.ins)∧V.cell? ⟨sb,so+j*3+1,none⟩=some (.int .i64 t.outs)∧V.cell? ⟨sb,so+j*3+2,none⟩=some (.slice TA n' TC) from
           fun V hb=>⟨(hb.cell (by simp only;omega)).trans j2,(hb.cell (by have:=Qae cx;simp only at this ⊢;omega)).trans dx,(hb.cell (by have:=Qae cx;simp only at this ⊢;omega)).trans dy,(hb.cell (by have:=Qae cx;simp only at this ⊢;omega)).trans dz⟩)
          have i3:(0:Int)≤(j:Int):=by omega
          have i4:(j:Int)<(k:Int):=by omega
          have hsz:w3.heap.size≤wr.heap.size:=hszr;clear hr ht cx cy cz dx dy dz j0 j1 hc1' hc2'
          go_wp2_with fail
          refine wp_region_held_drew (S:=fun V=>Below (w.heap.size+2) wr V) (by kernel_rfl) (Zr _ _).drew (fun _=>?_);refine tz 0 76 ?_;refine tz 2 78 ?_;refine tz 3 79 ?_;refine tz 4 80 ?_;refine tz 5 81 ?_;refine tz 6 82 ?_;refine wpAnyH_ready (rs:=[1,7]) (by kernel_rfl) (by simp) ?_;refine AllReadyH.cons (o:=_) rfl (fun K hK=>?_) (AllReadyH.cons (o:=_) rfl (fun K hK=>?_) AllReadyH.nil)
          focus
           have k3a:=hK0.three;obtain ⟨k3a,k3b,k3c⟩:=k3a;go_simp;refine hK.out _ _ (Zr _ _).drew (fun _=>?_);clear hK K k3a k3b k3c;refine Zk 7 (fun K hK=>?_);go_simp;with_reducible refine (HTC.out _ Qaf).mono ?_
           rintro r w4 ⟨rfl,hb4⟩;have hbr4:Below wr.heap.size wr w4:=Zb Qaf hb4;clear hb4
           go_wp2_with fail
           refine hK.out _ _ (hbr4.mono (by omega)) (fun _=>?_);clear hK K;refine Zk 8 (fun K hK=>?_);go_simp;refine hK.out _ _ (Below.alloc (hbr4.mono (by omega)) (by have:=hbr4.size;omega) _) (fun _=>?_);clear hK K
          rotate_left
          focus
           go_simp;with_reducible refine (HTC.out _ Qaf).mono ?_
           rintro r w4 ⟨rfl,hb4⟩;have hbr4:Below wr.heap.size wr w4:=Zb Qaf hb4;clear hb4
           go_wp2_with fail
           refine hK.out _ _ (hbr4.mono (by omega)) (fun _=>?_);clear hK K;refine wpAnyH_ready (rs:=[1,8]) (by kernel_rfl) (by simp) ?_;refine AllReadyH.cons (o:=_) rfl (fun K hK=>?_) (AllReadyH.cons (o:=_) rfl (fun K hK=>?_) AllReadyH.nil)
           focus
            have k3a:=(hK0.below hbr4 hK0.lt).three;obtain ⟨k3a,k3b,k3c⟩:=k3a;go_simp;refine hK.out _ _ (hbr4.mono (by omega)) (fun _=>?_);clear hK K k3a k3b k3c;refine Zk 8 (fun K hK=>?_);go_simp;refine hK.out _ _ (Below.alloc (hbr4.mono (by omega)) (by have:=hbr4.size;omega) _) (fun _=>?_);clear hK K
           rotate_left
           focus
            go_simp;refine hK.out _ _ (Below.alloc (hbr4.mono (by omega)) (by have:=hbr4.size;omega) _) (fun _=>?_);clear hK K;have k3a:=fun o=>((hK0.below hbr4 hK0.lt).alloc o).three.1
            have k3b:=fun o=>((hK0.below hbr4 hK0.lt).alloc o).three.2.1
            have k3c:=fun o=>((hK0.below hbr4 hK0.lt).alloc o).three.2.2
            refine Zk 1 (fun K hK=>?_);go_simp;refine hK.out _ _ (Below.alloc (hbr4.mono (by omega)) (by have:=hbr4.size;omega) _) (fun _=>?_);clear hK K k3a k3b k3c
          all_goals
           have hW:∃ W,W=w4.alloc (.cells #[.int .i64 t.ins,.int .i64 t.outs,.slice TA n' TC] 75):=⟨_,rfl⟩;obtain ⟨W,hW⟩:=hW;rw [←hW];have hb4W:Below w4.heap.size w4 W:=by rw [hW];exact Qaf
           have hrdW:Rds W 3 (some ⟨w4.heap.size,0,none⟩) 1 [.int .i64 t.ins,.int .i64 t.outs,.slice TA n' TC]:=by rw [hW];exact (Blk.new w4 75 #[.int .i64 t.ins,.int .i64 t.outs,.slice TA n' TC]).rds rfl
           clear hW;have hbrW:Below wr.heap.size wr W:=Zb hbr4 hb4W;have hyW:=hown.below hbrW;have hVW:=hVo.below hbrW;have hAW:=hAo.below hbrW;have hbW:Below (w.heap.size+2) wr W:=hbrW.mono (by omega);have hblW:Below w.heap.size w W:=Zb hbl hbrW;have hJW:=hJ.below hbrW hJ.lt;have hRW:=hR.below hbrW hR.lt;have hKW:=hK0.below hbrW hK0.lt;have hcW:=HRR.out.below hblW;have hclW:=HLE.out;have hcapW:=HC1.out;have hcapM:=HC2.out;have hWsz:w3.heap.size≤W.heap.size:=by have:=hbrW.size;omega
           have HYY:=Zh hyW;have hownY:=hyW.1
           have HONE:=Zh (show ∀ u∈[Value.int .i64 t.ins,.int .i64 t.outs,.slice TA n' TC],u.oneCell'=true from fun u hu=>by
            simp at hu
            rcases hu with rfl|rfl|rfl <;> rfl)
           clear hyW;refine Zk 9 (fun K hK=>?_);with_reducible refine Qar (some 85) rfl rfl (.tmp 77) (.tmp 84) 24 rfl 75 _ 3 40 Quj underlying24 rfl (by omega) rfl rfl hownY hrdW HONE.out (by omega) (by omega) hWsz ?_
           intro A' c' w' hown' hg _;have hb5:Below (w.heap.size+2) wr w':=Zo hbW hg (hownY.mono (by omega)) (by omega);have hb6:Below w.heap.size w w':=Zo hblW hg (hownY.mono (by omega)) (by omega);have hJ':=hJW.grown hg (hownY.ne (by omega));have hR':=hRW.grown hg (hownY.ne (by omega));have hK':=hKW.grown hg (hownY.ne (by omega));have hV':=hVW.far hg (Own.apart HLT.out hownY);have hA':=hAW.far hg (Own.apart HLA.out hownY);have HYN:=Zh (HYY.out.push (by omega) hown' hg hcW hclW hcapW hcapM);clear hownY hrdW hbW hblW hJW hRW hKW hg hVW hAW hclW hcW hown' HYY hbrW hb4W hcapW hcapM;refine hK.out _ _ hb5 (fun _=>?_);clear hK K;simp only [Act.put,Yi,Yj,Yk];refine tz 10 86 ?_;have k3':=hK'.three;have kf':=hK'.frozen 2;obtain ⟨k3a,k3b,k3c⟩:=k3';refine Zk 11 (fun K hK=>?_);go_simp;refine hK.out _ _ (hb5.setCell (by simp only;omega) _) (fun _=>?_);clear hK K;refine Zd ?_;have HK2:=Zh (hK'.set_ 2 (.slice A' (j+1) c'));have HV2:=Zh (hV'.far (Qab w' (w.heap.size+2) 2 (.slice A' (j+1) c')) (.inr (hV'.ne (by omega))));have HA2:=Zh (hA'.far (Qab w' (w.heap.size+2) 2 (.slice A' (j+1) c')) (.inr (hA'.ne (by omega))));have HY2:=Zh (HYN.out.far (Qab w' (w.heap.size+2) 2 (.slice A' (j+1) c')) (by omega) (by omega));clear hV' hA' hK' k3a k3b k3c kf'
           go_wp2_with fail
           go_roundw
           case rel=>exact ⟨(by have:=hb5.size;simp [World.setCell];omega),Qaf,Qhc,Qhc,HV2.out,HA2.out,j+1,A',c',_,by omega,by go_num,HK2.out,by rw [HN.out];exact HY2.out⟩
           case measure=>simp [intOf];omega
        · obtain rfl:k=j:=by omega
          rw [Ye (by rw [HY.out.1];exact Zn _)] at hown;obtain ⟨q0,q1,q2⟩:=hK0.three;have f0:=hR.frozen 0;have f1:=hR.frozen 1;have f2:=hR.frozen 2;obtain ⟨r0,r1,r2⟩:=hR.three;have HV5:=Zh ((((hVo.far (Qab wr (w.heap.size+1) 0 (.slice A1 n c1)) (.inr (hVo.ne (by omega)))).far (Qab _ (w.heap.size+1) 1 (.slice A3' m c3')) (.inr (hVo.ne (by omega)))).far (Qab _ (w.heap.size+1) 2 (.slice C3 k e3)) (.inr (hVo.ne (by omega)))).rds.rd3);have HA5:=Zh ((((hAo.far (Qab wr (w.heap.size+1) 0 (.slice A1 n c1)) (.inr (hAo.ne (by omega)))).far (Qab _ (w.heap.size+1) 1 (.slice A3' m c3')) (.inr (hAo.ne (by omega)))).far (Qab _ (w.heap.size+1) 2 (.slice C3 k e3)) (.inr (hAo.ne (by omega)))).rds.rd3);have HY5:=Zh ((((hown.far (Qab wr (w.heap.size+1) 0 (.slice A1 n c1)) (by omega) (by omega)).far (Qab _ (w.heap.size+1) 1 (.slice A3' m c3')) (by omega) (by omega)).far (Qab _ (w.heap.size+1) 2 (.slice C3 k e3)) (by omega) (by omega)).rdY);clear hVo hAo hown j0 j1 hR
          go_wp2_with fail
          refine bodyPost_ret (v:=.agg #[.slice A1 n c1,.slice A3' m c3',.slice C3 k e3]) (by simp [results,results54,go_sem,r0,r1,r2]) rfl ?_;exact ⟨A1,A3',C3,c1,c3',e3,rfl,⟨HV5.out,HA5.out,HY5.out⟩,Qaf⟩
end Go.Proofs.YthoagdpakddbdaaGreatDoor
