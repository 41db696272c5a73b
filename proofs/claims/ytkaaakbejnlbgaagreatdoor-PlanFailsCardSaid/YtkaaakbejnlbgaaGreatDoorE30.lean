/- Qbl of the proof: QTo, QSame, ScS, StT, Kn7, Open, OpN, Laid. -/
import Derived.Test.YtkaaakbejnlbgaaGreatDoorE28
import Derived.Test.YtkaaakbejnlbgaaGreatDoorE29
import Derived.Test.YtkaaakbejnlbgaaGreatDoorRows
import Derived.ProofKit
import Derived.OpenShut
import Derived.Deep.Slices
import Derived.SizedLaws
import Derived.ChangeArms
import Derived.Test.YtkaaakbejnlbgaaGreatDoorTie
import Derived.Test.YtkaaakbejnlbgaaGreatDoorCards
import Derived.Handed
import Derived.ChangeSame
import Derived.ChangeVars
import Derived.JoinedOf
import Derived.LaidLaws
import Derived.LaidHandle
import Derived.SevenTiedAt
set_option maxHeartbeats 4000000
set_option maxRecDepth 20000
namespace Go.Proofs.YtkaaakbejnlbgaaGreatDoor
open Go.RowKit Go.Proofs.Tryz
attribute [local go_sem ↓] Go.wp_at_zero Go.wp_at_succ
theorem Qzr:(Tryz.prog.info? 90).map (fun i=>(i.zero,i.size,i.bytes))=some (some (.agg #[.int .i64 0,.int .i64 0]),2,16):=Kf
theorem Qyd {L:Pz} {k:Nat} {p:Int×Int} (h:L[k]?=some p):Qcj (L.take (k+1))=Qcj (L.take k) ++[.int .i64 p.1,.int .i64 p.2]:=by have hlt:=(Zs h).1;have e:=(Zs h).2;rw [Yf hlt,e,Qlh];rfl
theorem Rif (x y:Int):∀ u∈[Value.int .i64 x,Value.int .i64 y],u.oneCell'=true:=Rcl [(x,y)]
theorem Raq (dep cap lim:Int)(A:Oz)(n c:Nat) (st:Pz) (w:World) (h:RdP w A n st) (hn:n≤1000000000) :
 Calls prog 12 #[Qia dep cap lim A n c] w fun e w'=>∃ A' c',e=.returned (Qia dep cap lim A' n c')∧RdP w' A' n st∧Bw w w':=by
 have HL:=Zh h.1;go_enter func12,ntmps12
 go_wp2_with fail
 (refine Qai ?_;intro w1 hw1);have hb1:Bw w w1:=by rw [hw1];exact Qag
 have hJ:Blk w1 w.heap.size 32 #[.int .i64 dep,.int .i64 cap,.int .i64 lim,.slice A n c]:=by rw [hw1];exact Qbi
 have hR:Blk w1 (w.heap.size+1) 42 #[.int .i64 0,.int .i64 0,.int .i64 0,.slice none 0 0]:=by rw [hw1];exact Qbi
 have hK0:Blk w1 (w.heap.size+1+1) 42 #[.int .i64 dep,.int .i64 cap,.int .i64 lim,.slice none 0 0]:=by rw [hw1];exact Qbi
 clear hw1;go_loopw [4] (fun i W=>Bw w W∧Blk W w.heap.size 32 #[.int .i64 dep,.int .i64 cap,.int .i64 lim,.slice A n c]∧Blk W (w.heap.size+1) 42 #[.int .i64 0,.int .i64 0,.int .i64 0,.slice none 0 0]∧∃ (k:Nat) (A3:Oz) (c3:Nat),k≤n∧i=.int .i64 k∧Blk W (w.heap.size+1+1) 42 #[.int .i64 dep,.int .i64 cap,.int .i64 lim,.slice A3 k c3]∧Own W (w.heap.size+1+1+1) 90 2 A3 k c3 (Qcj (st.take k))) (fun i _=>n-(intOf i).toNat)
 case atStart=>exact ⟨hb1,hJ,hR,0,none,0,Nat.zero_le _,rfl,hK0,by simpa [Qcj] using Own.nil _ _ _ _⟩
 case round =>
  clear hb1 hJ hR hK0;obtain ⟨hbl,hJ,hR,k,A3,c3,hk,rfl,hK0,hown⟩:=hrel;obtain ⟨j0,j1,j2,j3⟩:=hJ.four;obtain ⟨k0,k1,k2,k3⟩:=hK0.four;have kf:=hK0.frozen 3;by_cases hlt:k<n
  · obtain ⟨sb,so,x,y,rfl,hx,cx,cy⟩:=h.at_ hlt;have HN:=Zh (Qyd hx);have dx:=Zc hbl (Zn _) cx;have dy:=Zc hbl (Zn _) cy
    have HSX:=Zh (show ∀ V,Below (w.heap.size+1+1) wr V→V.cell? ⟨w.heap.size,3,none⟩=some (.slice (some ⟨sb,so,none⟩) n c)∧V.cell? ⟨sb,so+k*2,none⟩=some (.int .i64 x)∧V.cell? ⟨sb,so+k*2+1,none⟩=some (.int .i64 y) from
     fun V hb=>⟨(hb.cell Sn).trans j3,(hb.cell (by have:=Qaj cx;simp only at this ⊢;omega)).trans dx,(hb.cell (by have:=Qaj cx;simp only at this ⊢;omega)).trans dy⟩)
    (have i3:0≤(k:Int):=Oo);(have i4:(k:Int)<n:=Oo);(have hsz:w.heap.size+1+1≤wr.heap.size:=by have:=hK0.lt;omega);clear hx cx cy dx dy j0 j1 j2 k0 k1 k2 kf;(go_wp2_with fail);refine wp_region_held_drew (S:=fun V=>Below (w.heap.size+1+1) wr V) Kf (Zr _ _).drew (fun _=>?_);refine tz 0 19 ?_;refine tzd 2 21 ?_;refine tzd 6 25 ?_;refine tzd 10 29 ?_;refine tz 14 33 ?_;refine wpAnyH_ready (rs:=[1,15]) Kf Sm ?_;refine AllReadyH.cons (o:=_) rfl (fun K hK=>?_) (AllReadyH.cons (o:=_) rfl (fun K hK=>?_) AllReadyH.nil);{go_simp;(refine hK.out _ _ (Zr _ _).drew (fun _=>?_);clear hK K;refine Zk 15 (fun K hK=>?_);go_simp;refine hK.out _ _ (((Zr _ _).alloc hsz _).drew) (fun _=>?_);clear hK K;have hW:∃ W,W=(wr.alloc (.cells #[.int .i64 x,.int .i64 y] 90)).drew:=⟨_,rfl⟩;obtain ⟨W,hW⟩:=hW;rw [←hW];have hownW:Own W (w.heap.size+1+1+1) 90 2 A3 k c3 (Qcj (st.take k)):=by rw [hW];exact (by repeat (first|assumption|apply Own.drewN|apply Own.drew|apply Own.alloc)));(have hrdW:Rds W 2 (some ⟨wr.heap.size,0,none⟩) 1 [.int .i64 x,.int .i64 y]:=by rw [hW];exact (Blk.new wr 90 #[.int .i64 x,.int .i64 y]).rds rfl);(have hbW:Below (w.heap.size+1+1) wr W:=by rw [hW];exact ((Zr _ _).alloc hsz _).drew);(have hblW:Bw w W:=by rw [hW];exact Qag);(have hJW:Blk W w.heap.size 32 #[.int .i64 dep,.int .i64 cap,.int .i64 lim,.slice (some ⟨sb,so,none⟩) n c]:=by rw [hW];exact Qiq);(have hRW:Blk W (w.heap.size+1) 42 #[.int .i64 0,.int .i64 0,.int .i64 0,.slice none 0 0]:=by rw [hW];exact Qiq);(have hKW:Blk W (w.heap.size+1+1) 42 #[.int .i64 dep,.int .i64 cap,.int .i64 lim,.slice A3 k c3]:=by rw [hW];exact Qiq);(have hWsz:w.heap.size+1+1+1≤W.heap.size:=by have:=hKW.lt;omega);exact Kai};{go_simp;(refine hK.out _ _ (((Zr _ _).alloc hsz _).drew) (fun _=>?_);clear hK K;have k3a:=fun o=>(hK0.alloc o).four.2.2.2);(refine Zk 1 (fun K hK=>?_);go_simp;refine hK.out _ _ (((Zr _ _).alloc hsz _).drew) (fun _=>?_);clear hK K;have hW:∃ W,W=(wr.alloc (.cells #[.int .i64 x,.int .i64 y] 90)).drew:=⟨_,rfl⟩;obtain ⟨W,hW⟩:=hW;rw [←hW];have hownW:Own W (w.heap.size+1+1+1) 90 2 A3 k c3 (Qcj (st.take k)):=by rw [hW];exact (by repeat (first|assumption|apply Own.drewN|apply Own.drew|apply Own.alloc)));(have hrdW:Rds W 2 (some ⟨wr.heap.size,0,none⟩) 1 [.int .i64 x,.int .i64 y]:=by rw [hW];exact (Blk.new wr 90 #[.int .i64 x,.int .i64 y]).rds rfl);(have hbW:Below (w.heap.size+1+1) wr W:=by rw [hW];exact ((Zr _ _).alloc hsz _).drew);(have hblW:Bw w W:=by rw [hW];exact Qag);(have hJW:Blk W w.heap.size 32 #[.int .i64 dep,.int .i64 cap,.int .i64 lim,.slice (some ⟨sb,so,none⟩) n c]:=by rw [hW];exact Qiq);(have hRW:Blk W (w.heap.size+1) 42 #[.int .i64 0,.int .i64 0,.int .i64 0,.slice none 0 0]:=by rw [hW];exact Qiq);(have hKW:Blk W (w.heap.size+1+1) 42 #[.int .i64 dep,.int .i64 cap,.int .i64 lim,.slice A3 k c3]:=by rw [hW];exact Qiq);(have hWsz:w.heap.size+1+1+1≤W.heap.size:=by have:=hKW.lt;omega);exact Kai}
  {(obtain rfl:k=n:=Oo);have hr:=hown.rds.rdP;rw [Ye (by rw [HL.o];exact Zn _)] at hr;have HR:=Zh hr;have q1:=hR.four;have q0:=hR.frozen;obtain ⟨q2,q3,q4,q5⟩:=q1;have q6:=q0 0;have q7:=q0 1;have q8:=q0 2;have q9:=q0 3;have HNE:=hown.ne (g:=w.heap.size+1) Oo;clear hr hown q0;(go_wp2_with fail);refine bodyPost_ret (v:=Qia dep cap lim A3 k c3) (by simp [results,results12,go_sem,q2,q3,q4,q5]) rfl ?_;exact ⟨A3,c3,rfl,((((HR.o.grown (Qac _ _ _ _) HNE).grown (Qac _ _ _ _) HNE).grown (Qac _ _ _ _) HNE).grown (Qac _ _ _ _) HNE),Qag⟩}
theorem Qvm (A A2:Oz)(n c n2 c2:Nat)(l:Iz)(w:World)(h:RdI w A n l)(h2:RdI w A2 n2 l)(hn:n≤4000000000000000000) :
 Calls prog 52 #[.slice A n c,.slice A2 n2 c2] w fun e w'=>e=.returned (.bool true)∧Bw w w':=by
 obtain rfl:n=n2:=by have:=h.1;have:=h2.1;omega
 go_enter func52,ntmps52
 go_wp2_with fail
 go_loopw [5] (fun i W=>Bw w W∧∃ k:Nat,k≤n∧i=.int .i64 k) (fun i _=>n-(intOf i).toNat)
 case atStart=>exact ⟨Zr _ _,0,Nat.zero_le _,rfl⟩
 case round =>
  obtain ⟨hbl,k,hk,rfl⟩:=hrel;by_cases hlt:k<n
  · obtain ⟨b,o,x,rfl,hx,hc⟩:=h.at_ hlt;obtain ⟨b2,o2,x2,rfl,hx2,hc2⟩:=h2.at_ hlt;obtain rfl:x=x2:=by rw [hx] at hx2;exact Yv hx2
    have HSX:=Zh (show ∀ V,Bw w V→V.cell? ⟨b,o+k,none⟩=some (.int .i64 x)∧V.cell? ⟨b2,o2+k,none⟩=some (.int .i64 x) from
     fun V hb=>⟨Zc hb (Zn _) hc,Zc hb (Zn _) hc2⟩)
    (have i3:0≤(k:Int):=Oo);(have i4:(k:Int)<n:=Oo);clear hx hx2 hc hc2;(go_wp2_with fail);refine wp_region_held_drew (S:=fun V=>Bw w V) Kf Qag (fun _=>?_);refine tzd 0 17 ?_;refine tzd 4 21 ?_;refine tz 8 25 ?_;refine Zd ?_;exact Kdr
  {(obtain rfl:k=n:=Oo);exact Kck}
theorem Qfo (A A2:Oz)(n c n2 c2:Nat) (l:Lz) (w:World) (h:RdT w A n l) (h2:RdT w A2 n2 l) (hn:n≤4000000000000000000) (hs:∀ r∈l,r.length≤4000000000000000000) :
 Calls prog 18 #[.slice A n c,.slice A2 n2 c2] w fun e w'=>e=.returned (.bool true)∧Bw w w':=by
 obtain rfl:n=n2:=by have:=h.1;have:=h2.1;omega
 have HS:=Zh hs;have HK:=Zh Qvm;clear hs;go_enter func18,ntmps18
 go_wp2_with fail
 go_loopw [5] (fun i W=>Bw w W∧∃ k:Nat,k≤n∧i=.int .i64 k) (fun i _=>n-(intOf i).toNat)
 case atStart=>exact ⟨Zr _ _,0,Nat.zero_le _,rfl⟩
 case round =>
  obtain ⟨hbl,k,hk,rfl⟩:=hrel;by_cases hlt:k<n
  · obtain ⟨b,o,B,m,d,x,rfl,hx,hc,hr,_,_⟩:=h.at_ hlt;(obtain ⟨b2,o2,B2,m2,d2,x2,rfl,hx2,hc2,hr2,_,_⟩:=h2.at_ hlt;obtain rfl:x=x2:=by rw [hx] at hx2;exact Yv hx2);have HLE:=Zh (HS.o x (Zm hx))
    have HSX:=Zh (show ∀ V,Bw w V→V.cell? ⟨b,o+k,none⟩=some (.slice B m d)∧V.cell? ⟨b2,o2+k,none⟩=some (.slice B2 m2 d2) from
     fun V hb=>⟨Zc hb (Zn _) hc,Zc hb (Zn _) hc2⟩)
    (have i3:0≤(k:Int):=Oo);(have i4:(k:Int)<n:=Oo);clear hx hx2 hc hc2;(go_wp2_with fail);(refine wp_region_held_drew (S:=fun V=>Bw w V) Kf Qag (fun hSV=>?_);refine tzd 0 17 ?_;refine tzd 4 21 ?_;refine Zk 8 (fun K hK=>?_);go_simp;with_reducible refine (HK.o B B2 m d m2 d2 x _ (hr.below hSV) (hr2.below hSV) (by have:=hr.len;have:=HLE.o;omega)).mono ?_);rintro e w5 ⟨rfl,hb5⟩;have hb6:Bw w w5:=Zb hSV hb5;(go_wp2_with fail);refine hK.out _ _ hb6 (fun _=>?_);clear hK K;refine tz 9 26 ?_;refine Zd ?_;exact Kdr
  {(obtain rfl:k=n:=Oo);exact Kck}
theorem Qsu (A B:Oz)(n m c d:Nat)(l l2:Iz)(w:World)(h:RdI w A n l)(h2:RdI w B m l2)(hn:n≤1000000000)(hm:m≤1000000000) :
 Calls prog 58 #[.slice A n c,.slice B m d] w fun e w'=>e=.returned (.bool (decide (l=l2)))∧∃ k,w'=w.drewN k:=by
 have HR:=Zh h;have HR2:=Zh h2;have HL:=Zh h.1;have HL2:=Zh h2.1;clear h h2;by_cases hnm:n=m;rotate_left;{(have e1:((n:Int) != (m:Int))=true:=by simp;omega);(have e2:((n:Int) == (m:Int))=false:=by simp;omega);have HD:=Zh (show decide (l=l2)=false from decide_eq_false (fun e=>hnm (by rw [←HL.o,←HL2.o,e])));(go_enter func58,ntmps58);(go_wp2_with fail);go_ret;exact ⟨Qao HD.o.symm,0,rfl⟩};subst hnm;go_enter func58,ntmps58
 go_wp2_with fail
 go_loopw [5] (fun q W=>(∃ k,W=w.drewN k)∧∃ i:Nat,i≤n∧q=.int .i64 i∧∀ j,j<i→l[j]?=l2[j]?) (fun q _=>n-(intOf q).toNat)
 case atStart=>exact ⟨⟨0,rfl⟩,0,Nat.zero_le _,rfl,fun _ h=>absurd h (Nat.not_lt_zero _)⟩
 case round =>
  obtain ⟨hd,i,hi,rfl,hall⟩:=hrel;have HD:=Zh hd;have HA:=Zh hall;clear hall;by_cases hlt:i<n
  · obtain ⟨b,o,x,rfl,hx,hc⟩:=HR.o.at_ hlt;(obtain ⟨b',o',y,rfl,hy,hc'⟩:=HR2.o.at_ hlt;have hc1:wr.cell? ⟨b,o+i,none⟩=some (.int .i64 x):=by obtain ⟨k,rfl⟩:=hd;exact hc);(have hc2:wr.cell? ⟨b',o'+i,none⟩=some (.int .i64 y):=by obtain ⟨k,rfl⟩:=hd;exact hc');(have HX:=Zh hx;have HY:=Zh hy;have i1:0≤(i:Int):=Oo);(have i2:(i:Int)<n:=Oo);clear hx hy hc hc' hd;by_cases e:x=y;{subst e;(go_wp2_with fail);(go_quiet (fail));(go_wp2_with fail);go_roundw;(case rel =>obtain ⟨k,e⟩:=HD.o;refine ⟨⟨k+nq,by rw [e,World.drewN_drewN]⟩,i+1,Oo,by go_num,fun j hj=>?_⟩;by_cases ej:j=i;{subst ej;rw [HX.o,HY.o]};{exact HA.o j Oo});case measure=>simp [intOf];omega}
    · (have e1:(x != y)=true:=by simpa using e);have e2:(x == y)=false:=by simpa using e
      have HN:=Zh (show decide (l=l2)=false from decide_eq_false (fun ee=>by
       have:=HX.o;rw [ee,HY.o] at this;exact e (Yv this).symm))
      have HE:=Zh e;clear e;(go_wp2_with fail);(go_quiet (fail));(go_wp2_with fail);go_ret;obtain ⟨k,e⟩:=HD.o;exact ⟨Qao HN.o.symm,k+nq,by rw [e,World.drewN_drewN]⟩
  · obtain rfl:n=i:=by omega
    have HE:=Zh (show decide (l=l2)=true from decide_eq_true (List.ext_getElem? (fun j=>by
     rcases Nat.lt_or_ge j n with h|h
     · exact HA.o j h
     · rw [Yd (by rw [HL.o];exact h),Yd (by rw [HL2.o];exact h)])))
    clear hd;(go_wp2_with fail);go_ret;exact ⟨Qao HE.o.symm,HD.o⟩
theorem Qmd (A B:Oz)(n m c d:Nat) (l l2:Lz) (w:World) (h:RdT w A n l) (h2:RdT w B m l2) (hn:n≤1000000) (hm:m≤1000000) (hr:∀ r∈l,r.length≤1000000) (hr2:∀ r∈l2,r.length≤1000000) :
 Calls prog 24 #[.slice A n c,.slice B m d] w fun e w'=>e=.returned (.bool (decide (l=l2)))∧Bw w w':=by
 have HR:=Zh h;have HR2:=Zh h2;have HL:=Zh h.1;have HL2:=Zh h2.1;have HM:=Zh hr;have HM2:=Zh hr2;clear h h2 hr hr2;by_cases hnm:n=m;rotate_left;{(have e1:((n:Int) != (m:Int))=true:=by simp;omega);(have e2:((n:Int) == (m:Int))=false:=by simp;omega);have HD:=Zh (show decide (l=l2)=false from decide_eq_false (fun e=>hnm (by rw [←HL.o,←HL2.o,e])));(go_enter func24,ntmps24);(go_wp2_with fail);go_ret;exact ⟨Qao HD.o.symm,Zr _ _⟩};subst hnm;go_enter func24,ntmps24
 go_wp2_with fail
 go_loopw [5] (fun q W=>Bw w W∧∃ i:Nat,i≤n∧q=.int .i64 i∧∀ j,j<i→l[j]?=l2[j]?) (fun q _=>n-(intOf q).toNat)
 case atStart=>exact ⟨Zr _ _,0,Nat.zero_le _,rfl,fun _ h=>absurd h (Nat.not_lt_zero _)⟩
 case round =>
  obtain ⟨hb,i,hi,rfl,hall⟩:=hrel;have HB:=Zh hb;have HA:=Zh hall;clear hall;by_cases hlt:i<n
  · obtain ⟨b,o,A1,n1,c1,x,rfl,hx,hc,hxr,_⟩:=HR.o.at_ hlt;obtain ⟨b',o',A2,n2,c2,y,rfl,hy,hc',hyr,_⟩:=HR2.o.at_ hlt;have k1:=Zc hb (Zn _) hc;have k2:=Zc hb (Zn _) hc';have HSX:=Zh (show ∀ V,Bw wr V→V.cell? ⟨b,o+i,none⟩=some (.slice A1 n1 c1)∧V.cell? ⟨b',o'+i,none⟩=some (.slice A2 n2 c2) from fun V hV=>⟨Zc hV (Zn _) k1,Zc hV (Zn _) k2⟩);(have HSC:=Zh (Qsu A1 A2 n1 n2 c1 c2 x y wr.drew (hxr.below (Zb hb (Zr _ _).drew)) (hyr.below (Zb hb (Zr _ _).drew)) (by rw [←hxr.1];have:=HM.o x (Zm hx);omega) (by rw [←hyr.1];have:=HM2.o y (Zm hy);omega));have HX:=Zh hx;have HY:=Zh hy;have i1:0≤(i:Int):=Oo);(have i2:(i:Int)<n:=Oo);clear hx hy hc hc' hb hxr hyr k1 k2;(go_wp2_with fail);(refine wp_region_held_drew (S:=fun V=>Bw wr V) Kf (Zr _ _).drew (fun _=>?_);refine tzd 0 17 ?_;refine tzd 4 21 ?_;refine Zk 8 (fun K hK=>?_);go_simp;with_reducible refine HSC.o.mono ?_);rintro r wx ⟨rfl,hkx⟩;have hbx:Bw wr wx:=by{obtain ⟨kx,rfl⟩:=hkx;exact Qbd (Zr _ _).drew kx};clear hkx;have HBX:=Zh (Zb HB.o hbx);go_simp;refine hK.out _ _ hbx (fun _=>?_);clear hK K hbx;by_cases e:x=y;{have e0:decide (x=y)=true:=decide_eq_true e;refine tz 9 26 ?_;refine Zd ?_;subst e;clear HSX HSC;(go_wp2_with fail);go_roundw;(case rel =>refine ⟨HBX.o,i+1,Oo,by go_num,fun j hj=>?_⟩;by_cases ej:j=i;{subst ej;rw [HX.o,HY.o]};{exact HA.o j Oo});case measure=>simp [intOf];omega}
    · have e0:decide (x=y)=false:=decide_eq_false e
      have HN:=Zh (show decide (l=l2)=false from decide_eq_false (fun ee=>by
       have:=HX.o;rw [ee,HY.o] at this;exact e (Yv this).symm))
      refine tz 9 26 ?_;refine Zd ?_;clear e HSX HSC;(go_wp2_with fail);go_ret;exact ⟨Qao HN.o.symm,HBX.o⟩
  · obtain rfl:n=i:=by omega
    have HE:=Zh (show decide (l=l2)=true from decide_eq_true (List.ext_getElem? (fun j=>by
     rcases Nat.lt_or_ge j n with h|h
     · exact HA.o j h
     · rw [Yd (by rw [HL.o];exact h),Yd (by rw [HL2.o];exact h)])))
    clear hb;(go_wp2_with fail);go_ret;exact ⟨Qao HE.o.symm,HB.o⟩
open Go.Extern Go.Extern.Stop Go.Stop
def Qlb:List (Int×Int):=[(3,2),(1,3)]
theorem Rgf:Qbf 5 0 5 50 Qlb=none:=by decide
theorem lo_plb:PlB Qcq 0 5 50 Qlb none:=.inr ⟨Rgf,Qsd,Qus,by decide⟩
theorem lo_chk1:PlC Qcq 0 5 50 2 Qlb [[1]] 50 (some ((⟨#[115,116,111,112]⟩:ByteArray),2,12)):=.inr ⟨Rgf,Qsd,Qus,by decide⟩
theorem lo_chk2:PlC Qcq 0 5 50 2 Qlb [[2,1]] 50 none:=.inr ⟨Rgf,Qsd,Qus,by decide⟩
theorem lo_tot:Qba Qsd [[2,1]]=50:=by decide
theorem lo_trip:Qqa Qsd 2=100:=by decide
def loopM:List (List Int):=[[0,30,1152921504606846976],[20,0,1152921504606846976],[1152921504606846976,1152921504606846976,1152921504606846976]]
theorem Qib (w:World)(hg:w.cell? ⟨0,0,none⟩=some Qpm):Calls prog 9 #[] w fun e w'=>e=.returned (.bool true)∧Below w.heap.size w w':=by
 have HG:=Zh hg;clear hg;go_enter func9,ntmps9
 go_wp2_with fail
 with_reducible refine (loop_ok w).mono ?_
 unfold LopP;rintro r w1 ⟨⟨A,B,C,Q,ca,cb,cc,cq,rfl,hn1,hq1⟩,hb1⟩;have HN1:=Zh hn1;have HQ1:=Zh hq1;have HB1:=Zh hb1;clear hn1 hq1 hb1;go_wp2_with fail
 (refine Qab ?_;intro w2 hw2);have hb2:Below w1.heap.size w1 w2:=by rw [hw2];exact Qag
 clear hw2;have HB2:=Zh (Zb HB1.out hb2);have HRY:=Zh (Qmy A B C Q 5 5 1 ca cb cc 1 cq Qcq Qse w2 (HN1.out.below hb2) Qkd (HQ1.out.below hb2) Rab (by rw [Rgh];omega));clear hb2 HN1 HQ1 HB1;with_reducible refine HRY.out.mono ?_
 unfold Qqb;rintro r w3 ⟨⟨g,o,CB,NC,cl,F,rfl,hNC,hG,hF,hO,hC,hA⟩,hb3⟩;have HNC:=Zh hNC;have HB3:=Zh (Zb HB2.out hb3);have HG3:=Zh hG.rd;have HO3:=Zh (hO.le (Qan _ _));have HC3:=Zh (show RdI w3 (some ⟨CB,0,none⟩) NC cl from ⟨hC.1,fun i x hx=>by obtain ⟨b,o,e,h1⟩:=hC.2 i x hx;exact ⟨b,o,e,Qan _ _ _ _ h1⟩⟩);have HA3:=Zh hA;have HMK:=Zh (fun V (hV:Below w3.heap.size w3 V) A' c' (hj:RdP V A' 2 Qlb)=>Qgp V g o Qcq Qse (some ⟨CB,0,none⟩) NC NC cl 0 5 50 A' 2 c' Qlb (HG3.out.below hV) (HO3.out.below hV) (HC3.out.below hV) Qkd Rab hNC hA ⟨Zn _,by rw [hNC,Rgh];omega⟩ (by rw [hNC,Rgh];omega) hj (by omega));have HTR:=Zh (fun V (hV:Below w3.heap.size w3 V) A' c' (hj:RdP V A' 2 Qlb)=>Qvc V g Qcq 0 5 50 A' 2 c' Qlb (HG3.out.below hV) Qkd hj (by omega));have HMD:=Zh (fun V (hV:Below w3.heap.size w3 V) A' n' c' pts (hp:RdI V A' n' pts) hn=>Qfd V g Qcq A' n' c' pts (HG3.out.below hV) Qkd hp hn);have HCK:=Zh (fun V (hV:Below w3.heap.size w3 V) A' c' RA rn rc rs cost (hj:RdP V A' 2 Qlb) (hr:RdT V RA rn rs) h1 h2=>Qma V g Qcq 0 5 50 A' 2 c' Qlb RA rn rc rs cost (HG3.out.below hV) Qkd hj (by omega) hr h1 h2);clear hNC hG hF hO hC hA hb3 HRY HB2;go_wp2_with fail
 (refine Qab ?_;intro w4 hw4);have hb4:Below w3.heap.size w3 w4:=by rw [hw4];exact Qag
 have hS4:Blk w4 w3.heap.size 82 #[.int .i64 3,.int .i64 2,.int .i64 1,.int .i64 3]:=by rw [hw4];exact Blk.new _ _ _
 have HP4:=Zh (show RdP w4 (some ⟨w3.heap.size,0,none⟩) 2 Qlb from ⟨rfl,fun i x hx=>by
  match i,hx with
  | 0,hx=>cases hx;exact ⟨_,0,rfl,Zq hS4,Zq hS4⟩
  | 1,hx=>cases hx;exact ⟨_,0,rfl,Zq hS4,Zq hS4⟩
  | i+2,hx=>simp [Qlb] at hx⟩)
 have HB4:=Zh hb4;clear hw4 hb4 hS4;with_reducible refine (Raq 0 5 50 _ 2 2 Qlb w4 HP4.out (by omega)).mono ?_
 rintro e w5 ⟨A',c',rfl,hst,hb5⟩;have HST5:=Zh hst;have HB5:=Zh (Zb HB4.out hb5);clear hst hb5 HP4 HB4;go_wp2_with fail
 (refine Qab ?_;intro w6 hw6);have hb6:Below w5.heap.size w5 w6:=by rw [hw6];exact Qag
 have HJ6:=Zh (show Blk w6 w5.heap.size 42 #[.int .i64 0,.int .i64 5,.int .i64 50,.slice A' 2 c'] by rw [hw6];exact Blk.new _ _ _);have HB6:=Zh (Zb HB5.out hb6);have HST6:=Zh (HST5.out.below hb6);clear hw6 hb6 HST5;with_reducible refine (HMK.out w6 HB6.out A' c' HST6.out).mono ?_
 unfold MakP;rintro e w7 ⟨⟨b,hpb,hm⟩,hb7⟩;obtain rfl:=hpb.uniq lo_plb;obtain ⟨d,a,m,c,out,hmt,rfl,hr7,hmade,_⟩:=hm;obtain rfl:=hmt.uniq Qus;obtain rfl:=lo_made hmade;obtain rfl:m=1:=hr7.1.symm;rw [lo_tot];have HR7:=Zh hr7;have HB7:=Zh (Zb HB6.out hb7);have HJ7:=Zh (HJ6.out.below hb7 HJ6.out.lt);have HST7:=Zh (HST6.out.below hb7);clear hpb hmt hmade hr7 hb7 HMK HJ6 HST6 HB6 HB5;obtain ⟨x0,x1,x2,x3⟩:=HJ7.out.four;have hjl:=HJ7.out.lt;go_wp2_with fail
 (refine Qab ?_;intro w8 hw8);have hb8:Below w7.heap.size w7 w8:=by rw [hw8];exact Qag
 have HX8:=Zh (show Blk w8 w7.heap.size 45 #[.slice (some a) 1 c,.int .i64 50] by rw [hw8];exact Blk.new _ _ _);have HB8:=Zh (Zb HB7.out hb8);have HJ8:=Zh (HJ7.out.below hb8 hjl);have HST8:=Zh (HST7.out.below hb8);have HR8:=Zh (HR7.out.below hb8);clear hw8 hb8 hjl x0 x1 x2 x3 HB7 HJ7 HST7 HR7;with_reducible refine (HTR.out w8 HB8.out A' c' HST8.out).mono ?_
 unfold TrpP;rintro e w9 ⟨⟨b,hpb,hm⟩,hb9⟩;obtain rfl:=hpb.uniq lo_plb;obtain ⟨d,hmt,_,rfl⟩:=hm;obtain rfl:=hmt.uniq Qus;rw [lo_trip];have HB9:=Zh (Zb HB8.out hb9);have HX9:=Zh (HX8.out.below hb9 HX8.out.lt);have HJ9:=Zh (HJ8.out.below hb9 HJ8.out.lt);have HST9:=Zh (HST8.out.below hb9);have HR9:=Zh (HR8.out.below hb9);clear hpb hmt hb9 HTR HX8 HJ8 HST8 HR8 HB8;go_wp2_with fail
 (refine Qab ?_;intro wa hwa);have hba:Below w9.heap.size w9 wa:=by rw [hwa];exact Qag
 have hIa:RdI wa (some ⟨w9.heap.size,0,none⟩) 3 [0,3,9]:=by rw [hwa];exact Blk.rdI (t:=3) (l:=[0,3,9]) (Blk.new w9 3 (Qbr [0,3,9])) rfl
 have HMX:=Zh (HMD.out wa (Zb HB9.out hba) _ 3 3 _ hIa (by omega));clear hwa hIa HMD;with_reducible refine HMX.out.mono ?_
 unfold MdlP;rintro e wb ⟨⟨tb,ls,rfl,hrt,hmt⟩,hbb⟩;obtain rfl:ls=loopM:=hmt.uniq lo_tab2;have hb9b:=Zb hba hbb;have HTB:=Zh hrt;have HBb:=Zh (Zb HB9.out hb9b);have HXb:=Zh (HX9.out.below hb9b HX9.out.lt);have HJb:=Zh (HJ9.out.below hb9b HJ9.out.lt);have HSTb:=Zh (HST9.out.below hb9b);have HRb:=Zh (HR9.out.below hb9b);clear hmt hrt hba hbb hb9b HMX HX9 HJ9 HST9 HR9 HB9;obtain ⟨x0,x1,x2,x3⟩:=HJb.out.four;have hjl:=HJb.out.lt;go_wp2_with fail
 (refine Qab ?_;intro wc hwc);have hbc:Below wb.heap.size wb wc:=by rw [hwc];exact Qag
 have hRc:RdT wc (some ⟨wb.heap.size+1,0,none⟩) 1 [[1]]:=by
  have b0:Blk wc wb.heap.size 3 (Qbr [1]):=by rw [hwc];exact Blk.alloc (Blk.new wb 3 (Qbr [1])) _
  have b1:Blk wc (wb.heap.size+1) 64 #[.slice (some ⟨wb.heap.size,0,none⟩) 1 1]:=by rw [hwc];exact Blk.new' _ _ _ (by simp)
  refine ⟨rfl,fun i l hl=>?_⟩
  match i,hl with
  | 0,hl=>cases hl;exact ⟨_,0,_,1,1,rfl,Zq b1,b0.rdI rfl,Zn _,by omega⟩
  | i+1,hl=>simp at hl
 have HCX:=Zh (HCK.out wc (Zb HBb.out hbc) A' c' _ 1 1 _ 50 (HSTb.out.below hbc) hRc (by omega) (by decide));have HBc:=Zh hbc;clear hwc hRc hjl x0 x1 x2 x3;with_reducible refine HCX.out.mono ?_
 unfold ChkP;rintro e wd ⟨b,hpb,hm⟩;obtain rfl:=hpb.uniq lo_chk1;unfold ErP at hm;obtain ⟨⟨v,rfl,hch⟩,hbd⟩:=hm;obtain ⟨tv,xv,rfl⟩:=Qaw hch;have hbbd:=Zb HBc.out hbd;have HCH:=Zh hch;have HTd:=Zh (HTB.out.below hbbd);have HBd:=Zh (Zb HBb.out hbbd);have HXd:=Zh (HXb.out.below hbbd HXb.out.lt);have HJd:=Zh (HJb.out.below hbbd HJb.out.lt);have HSTd:=Zh (HSTb.out.below hbbd);have HRd:=Zh (HRb.out.below hbbd);clear hpb hch hbd hbbd HCX HBc HTB HBb HXb HJb HSTb HRb;have p0:wd.cell? ⟨w7.heap.size,0,none⟩=some (.slice (some a) 1 c):=Zq HXd.out;have hpl:=HXd.out.lt;go_wp2_with fail
 (refine Qab ?_;intro we hwe);have hbe:Below wd.heap.size wd we:=by rw [hwe];exact Qag
 have hRe:RdT we (some ⟨wd.heap.size+1,0,none⟩) 1 [[2,1]]:=by
  have b0:Blk we wd.heap.size 3 (Qbr [2,1]):=by rw [hwe];exact Blk.alloc (Blk.new wd 3 (Qbr [2,1])) _
  have b1:Blk we (wd.heap.size+1) 64 #[.slice (some ⟨wd.heap.size,0,none⟩) 2 2]:=by rw [hwe];exact Blk.new' _ _ _ (by simp)
  refine ⟨rfl,fun i l hl=>?_⟩
  match i,hl with
  | 0,hl=>cases hl;exact ⟨_,0,_,2,2,rfl,Zq b1,b0.rdI rfl,Zn _,by omega⟩
  | i+1,hl=>simp at hl
 have HSR:=Zh (Qfo (some a) (some ⟨wd.heap.size+1,0,none⟩) 1 c 1 1 [[2,1]] we (HRd.out.below hbe) hRe (by omega) (by decide));have HBe:=Zh hbe;clear hwe hbe hRe p0 hpl;with_reducible refine HSR.out.mono ?_
 rintro e wf ⟨rfl,hbf⟩;have hbdf:=Zb HBe.out hbf;have HCf:=Zh (HCH.out.below hbdf);have HTf:=Zh (HTd.out.below hbdf);have HBf:=Zh (Zb HBd.out hbdf);have HXf:=Zh (HXd.out.below hbdf HXd.out.lt);have HJf:=Zh (HJd.out.below hbdf HJd.out.lt);have HSTf:=Zh (HSTd.out.below hbdf);have HRf:=Zh (HRd.out.below hbdf);clear hbf hbdf HSR HBe HCH HTd HBd HXd HJd HSTd HRd;obtain ⟨x0,x1,x2,x3⟩:=HJf.out.four;have p0:wf.cell? ⟨w7.heap.size,0,none⟩=some (.slice (some a) 1 c):=Zq HXf.out;have p1:wf.cell? ⟨w7.heap.size,1,none⟩=some (.int .i64 50):=Zq HXf.out;have HCX:=Zh (HCK.out wf HBf.out A' c' _ 1 c _ 50 HSTf.out HRf.out (by omega) (by decide));go_wp2_with fail
 with_reducible refine HCX.out.mono ?_
 unfold ChkP;rintro e wg ⟨b,hpb,hm⟩;obtain rfl:=hpb.uniq lo_chk2;unfold ErP at hm;obtain ⟨rfl,hbg⟩:=hm;have HCg:=Zh (HCf.out.below hbg);have HTg:=Zh (HTf.out.below hbg);have HBg:=Zh (Zb HBf.out hbg);clear hpb hbg x0 x1 x2 x3 p0 p1 HCX HCK HCf HTf HBf HXf HJf HSTf HRf;go_wp2_with fail
 (refine Qab ?_;intro wh hwh);have hbh:Below wg.heap.size wg wh:=by rw [hwh];exact Qag
 have hTh:RdT wh (some ⟨wg.heap.size+1+1+1,0,none⟩) 3 loopM:=by
  have b0:Blk wh wg.heap.size 2 (Qbr [0,30,1152921504606846976]):=by rw [hwh];exact Blk.alloc (Blk.alloc (Blk.alloc (Blk.new wg 2 (Qbr [0,30,1152921504606846976])) _) _) _
  have b1:Blk wh (wg.heap.size+1) 2 (Qbr [20,0,1152921504606846976]):=by rw [hwh];exact Blk.alloc (Blk.alloc (Blk.new' _ 2 (Qbr [20,0,1152921504606846976]) (by simp)) _) _
  have b2:Blk wh (wg.heap.size+1+1) 2 (Qbr [1152921504606846976,1152921504606846976,1152921504606846976]):=by rw [hwh];exact Blk.alloc (Blk.new' _ 2 (Qbr [1152921504606846976,1152921504606846976,1152921504606846976]) (by simp)) _
  have b3:Blk wh (wg.heap.size+1+1+1) 37 #[.slice (some ⟨wg.heap.size,0,none⟩) 3 3,.slice (some ⟨wg.heap.size+1,0,none⟩) 3 3,.slice (some ⟨wg.heap.size+1+1,0,none⟩) 3 3]:=by rw [hwh];exact Blk.new' _ _ _ (by simp)
  refine ⟨rfl,fun i l hl=>?_⟩
  match i,hl with
  | 0,hl=>cases hl;exact ⟨_,0,_,3,3,rfl,Zq b3,b0.rdI rfl,Zn _,by omega⟩
  | 1,hl=>cases hl;exact ⟨_,0,_,3,3,rfl,Zq b3,b1.rdI rfl,Zn _,by omega⟩
  | 2,hl=>cases hl;exact ⟨_,0,_,3,3,rfl,Zq b3,b2.rdI rfl,Zn _,by omega⟩
  | i+3,hl=>simp [loopM] at hl
 have hst:=Qmd (some ⟨tb,0,none⟩) (some ⟨wg.heap.size+1+1+1,0,none⟩) 3 3 3 3 _ _ wh (HTg.out.below hbh) hTh (by omega) (by omega) (by decide) (by decide);rw [decide_eq_true rfl] at hst;have HSM:=Zh hst;have HBh:=Zh hbh;clear hwh hbh hTh hst;with_reducible refine HSM.out.mono ?_
 rintro e wi ⟨rfl,hbi⟩;have hbgi:=Zb HBh.out hbi;have HCi:=Zh (HCg.out.below hbgi);have HBi:=Zh (Zb HBg.out hbgi);clear hbi hbgi HSM HBh HCg HTg HBg;go_wp2_with fail
 with_reducible refine (Rhi (⟨#[115,116,111,112]⟩:ByteArray) 2 12 wi).mono ?_
 rintro r wj ⟨_,rfl,⟨A4,n4,m4,rfl,h4,h5⟩,hbj⟩;have HR4:=Zh h4;have HCj:=Zh (HCi.out.below hbj);have HBj:=Zh (Zb HB3.out (Zb HBi.out hbj));clear h4 hbj HCi HBi;go_wp2_with fail
 with_reducible refine (Qvw (.iface tv xv) A4 n4 m4 [((⟨#[115,116,111,112]⟩:ByteArray),2)] 12 wj HCj.out HR4.out (by omega) (Zc HBj.out (Zn _) HG.out) (by omega)).mono ?_
 rintro r wk ⟨rfl,hbk⟩;go_wp2_with fail
 go_ret;exact ⟨rfl,Zb HBj.out hbk⟩
end Go.Proofs.YtkaaakbejnlbgaaGreatDoor
namespace Go.Proofs.YtkaaakbejnlbgaaGreatDoor
open Go.ChangeShapes Go.WideShapes Go.ChangeAt Go.RowKit Go.Deep
theorem own_:ownKnob Tryz.prog.godebug=none:=by kernel_rfl
theorem Qdl:laidOutB Tryz.prog=true:=by kernel_rfl
theorem Rge {α:Type}{p:Nat→α→Prop}:∀ (n:Nat),(∀ i,i<n→∃ a,p i a)→∃ l:List α,l.length=n∧∀ i a,l[i]?=some a→p i a
 | 0,_=>⟨[],rfl,fun i a h=>by simp at h⟩
 | n+1,h=>by
  obtain ⟨l,hl,hp⟩:=Rge n (fun i hi=>h i (by omega));obtain ⟨a,ha⟩:=h n (by omega);refine ⟨l ++[a],by simp [hl],fun i b hb=>?_⟩;rcases Nat.lt_or_ge i n with h1|h1
  {rw [Yc (by omega)] at hb;exact hp i b hb};{rw [Yb (by omega),hl] at hb;have:i=n:=by{(rcases Nat.lt_or_ge (i-n) 1 with h2|h2);{omega};{rw [Yd (by simpa using h2)] at hb;cases hb}};subst this;simp at hb;subst hb;exact ha}
section
variable {H:Type} {enc:TypeId×Value→H} {P:Program} {w:World} {base:Nat} {spare:Nat→Bool} {held:Bool}
theorem Qfa {α:Type}{t e k:Nat} (ht:P.underlying t=some (.slice e)) (hk:P.cellsOf e=k) (hk0:0<k) (Rel:List Value→α→Prop)
 (hel:∀ (fuel:Nat) (cs:List Value) (x:DataW H×List MemPlace),DataW.trod enc P w base spare held fuel e cs=some x→∃ a,Rel cs a)
 {A:Option Addr} {n c fuel:Nat} {x:DataW H×List MemPlace} (h:DataW.trod enc P w base spare held fuel t [.slice A n c]=some x) :
 ∃ l:List α,l.length=n∧n≤c∧c≤9223372036854775807∧(n=0∨∃ el sp,x.1=.slice el sp∧el.length=n) ∧
  ∀ i a,l[i]?=some a→∃ b o vs,A=some ⟨b,o,none⟩∧Rel vs a∧vs.length=k∧∀ j v,vs[j]?=some v→w.cell? ⟨b,o+i*k+j,none⟩=some v:=by
 rcases open_slice ht h with ⟨h0,_⟩|⟨a,len,cap,m,n',D,Pl,hcs,hb,hl,hm,hmm,hx,hi⟩
 {simp only [List.cons.injEq,Value.slice.injEq,and_true] at h0;obtain ⟨rfl,rfl,rfl⟩:=h0;exact ⟨[],rfl,Zn _,by omega,.inl rfl,fun i a h=>by simp at h⟩}
 · simp only [List.cons.injEq,Value.slice.injEq,and_true] at hcs;obtain ⟨rfl,rfl,rfl⟩:=hcs;have hlm:n≤m:=by rw [hmm];split <;> omega
   obtain ⟨l,hll,hlp⟩:=Rge (p:=fun i (y:α)=>∃ vs,Rel vs y∧vs.length=k∧∀ j v,vs[j]?=some v→w.cell? ((a.add (i*k)).add j)=some v) n (fun i hin=>by
    obtain ⟨cs',hc,ht'⟩:=hi i (by omega);rw [hk] at hc;obtain ⟨_,hlen,hat⟩:=World.cells?_some hc;obtain ⟨y,hy⟩:=hel _ _ _ ht';refine ⟨y,cs',hy,hlen,fun j v hv=>?_⟩;have hj:j<k:=by rw [←hlen];exact (Zs hv).1
    rw [hat j hj,hv])
   refine ⟨l,hll,hl,(by unfold maxLen at hm;omega),.inr ⟨_,_,by rw [hx],by simp⟩,fun i y hy=>?_⟩;obtain ⟨vs,h1,h2,h3⟩:=hlp i y hy;have hspot:a.spot=none:=by{have h4:=h3 0 vs[0] (Zg (by omega));have h5:=World.cell?_spot h4;unfold Addr.add at h5;by_cases h6:i*k=0;{simpa [h6] using h5};{have hl0:l.length=n:=hll;have h7:0<n:=by{have:=(Zs hy).1;omega};obtain ⟨y0,hy0⟩:∃ y0,l[0]?=some y0:=⟨l[0],Zg (by omega)⟩;obtain ⟨vs0,g1,g2,g3⟩:=hlp 0 y0 hy0;have g4:=World.cell?_spot (g3 0 vs0[0] (Zg (by omega)));simpa [Addr.add] using g4}};obtain ⟨b,o,sp⟩:=a;simp only at hspot;subst hspot;refine ⟨b,o,vs,rfl,h1,h2,fun j v hv=>?_⟩;have:=h3 j v hv;unfold Addr.add at this;by_cases h6:i*k=0;{by_cases h7:j=0;{simpa [h6,h7] using this};{simpa [h6,h7] using this}};{by_cases h7:j=0;{simpa [h6,h7] using this};{simpa [h6,h7] using this}}
theorem rel_int {k:IntKind}{e:Nat} (he:P.underlying e=some (.int k)) (fuel:Nat) (cs:List Value) (x:DataW H×List MemPlace) (h:DataW.trod enc P w base spare held fuel e cs=some x) :
 ∃ n:Int,cs=[.int k n]∧(Lit.int k n).wf=true:=by obtain ⟨n,h1,_,h3⟩:=DataW.trod_int he h;exact ⟨n,h1,h3⟩
theorem Qlf {k:IntKind}{t e:Nat} (ht:P.underlying t=some (.slice e)) (he:P.underlying e=some (.int k)) (hc:P.cellsOf e=1)
 {A:Option Addr} {n c fuel:Nat} {x:DataW H×List MemPlace} (h:DataW.trod enc P w base spare held fuel t [.slice A n c]=some x) :
 ∃ l:List Int,RdK k w A n l∧n≤c∧c≤9223372036854775807∧(n=0∨∃ el sp,x.1=.slice el sp∧el.length=n)∧∀ a∈l,(Lit.int k a).wf=true:=by obtain ⟨l,hl,hnc,hcm,hsz,hr⟩:=Qfa ht hc (by omega) (fun cs (p:Int)=>cs=[.int k p]∧(Lit.int k p).wf=true) (rel_int he) h;refine ⟨l,⟨hl,fun i p hp=>?_⟩,hnc,hcm,hsz,fun a ha=>?_⟩;{obtain ⟨b,o,vs,rfl,⟨rfl,_⟩,_,hv⟩:=hr i p hp;exact ⟨b,o,rfl,by have:=hv 0 _ rfl;simpa using this⟩};{obtain ⟨i,hi,e1⟩:=List.getElem_of_mem ha;obtain ⟨b,o,vs,_,⟨_,h2⟩,_,_⟩:=hr i a (by rw [Zg hi,e1]);exact h2}
end
theorem list_one {α:Type}:∀ {l:List α},l.length=1→∃ a,l=[a]
 | [a],_=>⟨a,rfl⟩
theorem Qic {α:Type}:∀ {l:List α},l.length=3→∃ a b c,l=[a,b,c]
 | [a,b,c],_=>⟨a,b,c,rfl⟩
section
variable {H:Type} {enc:TypeId×Value→H} {w:World} {base:Nat} {spare:Nat→Bool} {held:Bool}
theorem Qdu {t e:TypeId} (ht:Tryz.prog.underlying t=some (.slice e)) {fuel:Nat} {cs:List Value} {x:DataW H×List MemPlace} (h:DataW.trod enc Tryz.prog w base spare held fuel t cs=some x):∃ A n c,cs=[.slice A n c]:=by
 rcases open_slice ht h with ⟨h0,_⟩|⟨a,len,cap,m,n',D,Pl,hcs,_⟩
 {exact ⟨_,_,_,h0⟩};{exact ⟨_,_,_,hcs⟩}
theorem Rhj (fuel:Nat)(cs:List Value)(x:DataW H×List MemPlace)(h:DataW.trod enc Tryz.prog w base spare held fuel 64 cs=some x) :
 ∃ l:List Int,∃ A n c,cs=[.slice A n c]∧RdI w A n l∧n≤c∧c≤9223372036854775807:=by obtain ⟨A,n,c,rfl⟩:=Qdu Tryz.underlying64 h;obtain ⟨l,h1,h2,h3,_,_⟩:=Qlf Tryz.underlying64 Tryz.underlying3 (by kernel_rfl) h;exact ⟨l,A,n,c,rfl,h1,h2,h3⟩
theorem Qvb {cs:List Value}{fuel:Nat}{x:DataW H×List MemPlace}(h:DataW.trod enc Tryz.prog w base spare held fuel 29 cs=some x) :
 ∃ (A:Option Addr) (n c:Nat) (ls:List (List Int)),cs=[.slice A n c]∧RdT w A n ls∧n≤c∧c≤9223372036854775807:=by obtain ⟨xs,m,_,_,hcl,hxl,hi⟩:=DataW.trod_struct Tryz.underlying29 h;have hxl':xs.length=1:=hxl;have a0:DataW.trod enc Tryz.prog w base spare held m 27 ((cs.drop 0).take (Tryz.prog.cellsOf 27))=xs[0]?:=hi 0 _ rfl;rw [Zg (by omega)] at a0;obtain ⟨A,n,c,e0⟩:=Qdu Tryz.underlying27 a0;rw [e0] at a0;obtain ⟨l,hl,hnc,hcm,_,hr⟩:=Qfa Tryz.underlying27 (k:=1) (by kernel_rfl) (by omega) (fun cs (l:List Int)=>∃ A n c,cs=[.slice A n c]∧RdI w A n l∧n≤c∧c≤9223372036854775807) Rhj a0;rw [show Tryz.prog.cellsOf 29=1 by kernel_rfl] at hcl;rw [show Tryz.prog.cellsOf 27=1 by kernel_rfl] at e0;clear a0 hi h;obtain ⟨c0,rfl⟩:=list_one hcl;simp at e0;refine ⟨A,n,c,l,by simp [e0],⟨hl,fun i p hp=>?_⟩,hnc,hcm⟩;obtain ⟨b,o,vs,e,⟨A',n',c',e2,h1,h2,h3⟩,_,hv⟩:=hr i p hp;subst e2;exact ⟨b,o,A',n',c',e,by have:=hv 0 _ rfl;simpa using this,h1,h2,h3⟩
theorem rel_vert (fuel:Nat)(cs:List Value)(x:DataW H×List MemPlace)(h:DataW.trod enc Tryz.prog w base spare held fuel 139 cs=some x):∃ p:Tri,cs=[.int .i64 p.1,.int .i64 p.2.1,.int .i64 p.2.2]:=by obtain ⟨xs,m,_,_,hcl,hxl,hi⟩:=DataW.trod_struct Tryz.underlying139 h;have hxl':xs.length=3:=hxl;have a0:DataW.trod enc Tryz.prog w base spare held m 3 ((cs.drop 0).take (Tryz.prog.cellsOf 3))=xs[0]?:=hi 0 _ rfl;have a1:DataW.trod enc Tryz.prog w base spare held m 3 ((cs.drop 1).take (Tryz.prog.cellsOf 3))=xs[1]?:=hi 1 _ rfl;have a2:DataW.trod enc Tryz.prog w base spare held m 3 ((cs.drop 2).take (Tryz.prog.cellsOf 3))=xs[2]?:=hi 2 _ rfl;rw [Zg (by omega)] at a0 a1 a2;obtain ⟨n0,e0,_⟩:=DataW.trod_int Tryz.underlying3 a0;obtain ⟨n1,e1,_⟩:=DataW.trod_int Tryz.underlying3 a1;obtain ⟨n2,e2,_⟩:=DataW.trod_int Tryz.underlying3 a2;rw [show Tryz.prog.cellsOf 139=3 by kernel_rfl] at hcl;rw [show Tryz.prog.cellsOf 3=1 by kernel_rfl] at e0 e1 e2;exact Kdm
theorem rel_arc (fuel:Nat)(cs:List Value)(x:DataW H×List MemPlace)(h:DataW.trod enc Tryz.prog w base spare held fuel 141 cs=some x):∃ p:Tri,cs=[.int .i64 p.1,.int .i64 p.2.1,.int .i64 p.2.2]:=by obtain ⟨xs,m,_,_,hcl,hxl,hi⟩:=DataW.trod_struct Tryz.underlying141 h;have hxl':xs.length=3:=hxl;have a0:DataW.trod enc Tryz.prog w base spare held m 3 ((cs.drop 0).take (Tryz.prog.cellsOf 3))=xs[0]?:=hi 0 _ rfl;have a1:DataW.trod enc Tryz.prog w base spare held m 3 ((cs.drop 1).take (Tryz.prog.cellsOf 3))=xs[1]?:=hi 1 _ rfl;have a2:DataW.trod enc Tryz.prog w base spare held m 2 ((cs.drop 2).take (Tryz.prog.cellsOf 2))=xs[2]?:=hi 2 _ rfl;rw [Zg (by omega)] at a0 a1 a2;obtain ⟨n0,e0,_⟩:=DataW.trod_int Tryz.underlying3 a0;obtain ⟨n1,e1,_⟩:=DataW.trod_int Tryz.underlying3 a1;obtain ⟨n2,e2,_⟩:=DataW.trod_int Tryz.underlying2 a2;rw [show Tryz.prog.cellsOf 141=3 by kernel_rfl] at hcl;rw [show Tryz.prog.cellsOf 3=1 by kernel_rfl] at e0 e1;rw [show Tryz.prog.cellsOf 2=1 by kernel_rfl] at e2;exact Kdm
def TabCs (w:World)(cs:List Value)(t:Qgc):Prop:=∃ (A:Option Addr) (n c:Nat),cs=[.int .i64 t.ins,.int .i64 t.outs,.slice A n c]∧RdI w A n t.costs∧n≤c∧c≤9223372036854775807
theorem rel_tab (fuel:Nat)(cs:List Value)(x:DataW H×List MemPlace)(h:DataW.trod enc Tryz.prog w base spare held fuel 137 cs=some x):∃ t:Qgc,TabCs w cs t:=by obtain ⟨xs,m,_,_,hcl,hxl,hi⟩:=DataW.trod_struct Tryz.underlying137 h;have hxl':xs.length=3:=hxl;have a0:DataW.trod enc Tryz.prog w base spare held m 3 ((cs.drop 0).take (Tryz.prog.cellsOf 3))=xs[0]?:=hi 0 _ rfl;have a1:DataW.trod enc Tryz.prog w base spare held m 3 ((cs.drop 1).take (Tryz.prog.cellsOf 3))=xs[1]?:=hi 1 _ rfl;have a2:DataW.trod enc Tryz.prog w base spare held m 37 ((cs.drop 2).take (Tryz.prog.cellsOf 37))=xs[2]?:=hi 2 _ rfl;rw [Zg (by omega)] at a0 a1 a2;obtain ⟨n0,e0,_⟩:=DataW.trod_int Tryz.underlying3 a0;obtain ⟨n1,e1,_⟩:=DataW.trod_int Tryz.underlying3 a1;obtain ⟨A,n,c,e2⟩:=Qdu Tryz.underlying37 a2;rw [e2] at a2;obtain ⟨l,h1,h2,h3,_,_⟩:=Qlf Tryz.underlying37 Tryz.underlying2 (by kernel_rfl) a2;rw [show Tryz.prog.cellsOf 137=3 by kernel_rfl] at hcl;rw [show Tryz.prog.cellsOf 3=1 by kernel_rfl] at e0 e1;rw [show Tryz.prog.cellsOf 37=1 by kernel_rfl] at e2;clear a0 a1 a2 hi h;obtain ⟨c0,c1,c2,rfl⟩:=Qic hcl;simp at e0 e1 e2;exact ⟨⟨n0,n1,l⟩,A,n,c,by simp [e0,e1,e2],h1,h2,h3⟩
theorem Qmv {cs:List Value}{fuel:Nat}{x:DataW H×List MemPlace}(h:DataW.trod enc Tryz.prog w base spare held fuel 26 cs=some x) :
 ∃ (A B C:Option Addr) (n m k c d e:Nat) (N:Qak),cs=[.slice A n c,.slice B m d,.slice C k e]∧Qcp w A B C n m k N∧k≤9223372036854775807:=by obtain ⟨xs,f,_,_,hcl,hxl,hi⟩:=DataW.trod_struct Tryz.underlying26 h;have hxl':xs.length=3:=hxl;have a0:DataW.trod enc Tryz.prog w base spare held f 22 ((cs.drop 0).take (Tryz.prog.cellsOf 22))=xs[0]?:=hi 0 _ rfl;have a1:DataW.trod enc Tryz.prog w base spare held f 23 ((cs.drop 1).take (Tryz.prog.cellsOf 23))=xs[1]?:=hi 1 _ rfl;have a2:DataW.trod enc Tryz.prog w base spare held f 24 ((cs.drop 2).take (Tryz.prog.cellsOf 24))=xs[2]?:=hi 2 _ rfl;rw [Zg (by omega)] at a0 a1 a2;obtain ⟨A,n,c,e0⟩:=Qdu Tryz.underlying22 a0;obtain ⟨B,m,d,e1⟩:=Qdu Tryz.underlying23 a1;obtain ⟨C,k,e,e2⟩:=Qdu Tryz.underlying24 a2;rw [e0] at a0;rw [e1] at a1;rw [e2] at a2;obtain ⟨vs,hl0,_,_,_,hr0⟩:=Qfa Tryz.underlying22 (k:=3) (by kernel_rfl) (by omega) (fun cs (p:Tri)=>cs=[.int .i64 p.1,.int .i64 p.2.1,.int .i64 p.2.2]) rel_vert a0;obtain ⟨ar,hl1,_,_,_,hr1⟩:=Qfa Tryz.underlying23 (k:=3) (by kernel_rfl) (by omega) (fun cs (p:Tri)=>cs=[.int .i64 p.1,.int .i64 p.2.1,.int .i64 p.2.2]) rel_arc a1;obtain ⟨ts,hl2,hkc,hcm,_,hr2⟩:=Qfa Tryz.underlying24 (k:=3) (by kernel_rfl) (by omega) (TabCs w) rel_tab a2;rw [show Tryz.prog.cellsOf 26=3 by kernel_rfl] at hcl;rw [show Tryz.prog.cellsOf 22=1 by kernel_rfl] at e0;rw [show Tryz.prog.cellsOf 23=1 by kernel_rfl] at e1;rw [show Tryz.prog.cellsOf 24=1 by kernel_rfl] at e2;clear a0 a1 a2 hi h;obtain ⟨c0,c1,c2,rfl⟩:=Qic hcl;simp at e0 e1 e2;refine ⟨A,B,C,n,m,k,c,d,e,⟨vs,ar,ts⟩,by simp [e0,e1,e2],⟨⟨hl0,fun i p hp=>?_⟩,⟨hl1,fun i p hp=>?_⟩,⟨hl2,fun i p hp=>?_⟩⟩,by omega⟩;{obtain ⟨b,o,us,e5,rfl,_,hv⟩:=hr0 i p hp;exact ⟨b,o,e5,by have:=hv 0 _ rfl;simpa using this,hv 1 _ rfl,hv 2 _ rfl⟩};{obtain ⟨b,o,us,e5,rfl,_,hv⟩:=hr1 i p hp;exact ⟨b,o,e5,by have:=hv 0 _ rfl;simpa using this,hv 1 _ rfl,hv 2 _ rfl⟩};{obtain ⟨b,o,us,e5,⟨A',n',c',rfl,h1,h2,h3⟩,_,hv⟩:=hr2 i p hp;exact ⟨b,o,e5,by have:=hv 0 _ rfl;simpa using this,hv 1 _ rfl,A',n',c',hv 2 _ rfl,h1,h2,h3⟩}
end
theorem et_ : Tryz.prog.globalNamed "errors.errorType" = some 0 := by kernel_rfl
theorem rt_ : (Tryz.prog.cutTypes.find? (·.1 == "internal/reflectlite.rtype")).map (·.2) = some 256 := by kernel_rfl
theorem oneRow_:((List.range 389).filter fun t=>Tryz.prog.rowNamed t [101,114,114,111,114])=[47]:=by kernel_rfl
theorem size_:Tryz.prog.types.size=389:=by kernel_rfl
theorem Qdv {W : World} (h : laidMetH Tryz.prog [("errors.errorType", Rows.laid_errors_errorType)] W) : W.cell? ⟨0, 0, none⟩ = some Qpm := by
 have h' : laidMet Tryz.prog [] W ∧ handlesMet Tryz.prog [("errors.errorType", Rows.laid_errors_errorType)] W := h
 obtain ⟨name,u,ty,e1,e2,e3,e4,e5⟩:=h'.2 _ (List.mem_singleton.2 rfl);have en:name=[101,114,114,111,114]:=(Yv e1).symm;subst en;obtain rfl:=Yv (rt_.symm.trans e2);have hm:ty∈(List.range 389).filter fun t=>Tryz.prog.rowNamed t [101,114,114,111,114]:=List.mem_filter.2 ⟨List.mem_range.2 (by rw [←size_];exact e3),e4⟩
 rw [oneRow_] at hm;obtain rfl:=List.mem_singleton.1 hm;have hh:typeHandle Tryz.prog 47=.pointer (some ⟨1,47,none⟩):=by kernel_rfl
 rw [hh] at e5;unfold Qpm;simpa using World.var?_cell et_ e5 0
noncomputable def Qhl (os:Os):World :=
 let w0:=World.holding Tryz.prog os ⟨#[],#[],[]⟩
 { w0 with heap:=w0.heap.modify 0 fun
  | .cells _ t frozen=>.cells #[Qpm] t frozen
  | o=>o }
theorem Qek (os : Os) (args : Array Value) : laidMetH Tryz.prog [("errors.errorType", Rows.laid_errors_errorType)] ((Qhl os).forCall (fun _ _ => 0) ⟨#[], args, []⟩).memory :=
 laidMetH_of_parts (laidMet_nil _ _) (by kernel_rfl)
