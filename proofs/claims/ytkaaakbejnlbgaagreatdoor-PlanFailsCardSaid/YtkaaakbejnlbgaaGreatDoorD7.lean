/- Qbl of the proof: Hv, InA, InP, InB, Dk, InQ, LeP, Pt, Pa. -/
import Derived.Test.YtkaaakbejnlbgaaGreatDoorD6
set_option maxHeartbeats 2000000
namespace Go.Proofs.YtkaaakbejnlbgaaGreatDoor
open Go.RowKit Go.Proofs.Tryz
attribute [local go_sem ↓] Go.wp_at_zero Go.wp_at_succ
section
variable {G:Nat→Prop} {g gc gs n m c:Nat} {A:Oz} {R:List Nat} {C:Iz} {S:List Nat}
theorem Qbh.cut {W:World}(h:Qbh W G g A gc gs n m c R C S){L:Nat}(hL:L≤m):Qbh (W.setCell ⟨g,0,none⟩ (.slice A L c)) G g A gc gs n L c (R.take L) C S:=by have h1:Own W 0 3 1 A L c (Qae (nis (R.take L))):=h.row.front_ hL (by simp [Qae,nis,List.map_take]);refine ⟨?_,h1.far (Qac _ _ _ _) (.inr fun e=>(h.dA g e).1 rfl),h.cs.far_ (fun e=>h.dg.1 e.symm) _,h.ss.far_ (fun e=>h.dg.2.1 e.symm) _,h.dA,h.dg,h.dG,fun b hb=>by simpa [World.setCell] using h.lt b hb,by rw [Yw,h.lr];omega,h.lc,h.ls,h.n0⟩;exact h.blk.set_ 0 _
theorem Rbv (w:World)(h:Qbh w G g A gc gs n 0 c R C S) :
 Calls prog 132 #[.pointer (some ⟨g,0,none⟩)] w fun e w'=>e=.returned (.tuple #[.int .i64 0,.int .i64 0,.bool false])∧w=w':=by
 have f0:=h.f0;clear h;go_enter func132,ntmps132
 go_wp2_with fail
 refine bodyPost_ret (v:=.tuple #[.int .i64 0,.int .i64 0,.bool false]) (by simp [results,results132,go_sem]) rfl ?_;exact ⟨rfl,rfl⟩
theorem Rbw (w:World)(L:Nat) (h:Qbh w G g A gc gs n (L+1) c R C S) (hp:HpS n R C S) (ho:Ord (at_ R C) (L+1)) (k:Nat) (hk:R[0]?=some k) (x:Int) (hx:C[k]?=some x) :
 Calls prog 132 #[.pointer (some ⟨g,0,none⟩)] w fun e w'=>e=.returned (.tuple #[.int .i64 k,.int .i64 x,.bool true])∧(∃ (R' S':List Nat),Qbh w' G g A gc gs n L c R' C S'∧HpS n R' C S'∧Ord (at_ R' C) L∧∀ q,q∈R'↔q∈R∧q≠k)∧Aft G w w':=by
 obtain ⟨gr,hgr,hfr⟩:=h.rowBlk Oo;subst hgr;have hlr:=h.lr;have hcap:=h.cap;have hn0:=h.n0;have hkn:k<n:=(hp.seat 0 k hk).1
 obtain ⟨b,y,la,lb,lc,ld⟩:=hp.key (i:=L) Oo;have f0:=h.f0;have r0:=h.rowAt hk;have HSW:=Zh (fun V (hV:Qbh V G g (some ⟨gr,0,none⟩) gc gs n (L+1) c R C S)=>(show Calls prog 192 #[.pointer (some ⟨g,0,none⟩),.int .i64 0,.int .i64 L] V _ from Qnu V hV hk la hkn lb));have HPP:=Zh (hp.pop hlr hk);have HPO:=Zh (hp.popOrd ho hlr hk);have HH:=Zh h.drew;have i1:((L:Int)+1 == 0)=false:=by simp;omega
 have e1:IntKind.i64.wrap ((L:Int)+1-1)=(L:Int):=by rw [show (L:Int)+1-1=(L:Int) by omega];exact IntWalk.i64_in _ Oo
 have hle:=hp.le;clear h hp ho la lc ld;go_enter func132,ntmps132
 go_wp2_with fail
 refine wp_region_held_drew (S:=fun V=>V.cell? ⟨g,0,none⟩=some (.slice (some ⟨gr,0,none⟩) (L+1) c)∧V.cell? ⟨gr,0,none⟩=some (.int .i64 k)) Kf ⟨f0,r0⟩ (fun _=>?_);refine tzd 0 13 ?_;refine tzd 4 17 ?_;refine tzd 8 21 ?_;refine tzb 12 5 ?_;refine Zd ?_;clear f0 r0;go_wp2_with fail
 with_reducible refine (HSW.o _ HH.o).mono ?_
 rintro e w1 ⟨rfl,hw1,ha1⟩;have ha:Aft G w w1:=⟨ha1.kept,ha1.size,fun B hB=>(Zr B w).drew.trans (ha1.bel B hB)⟩;have f0:=hw1.f0;have z0:w1.frozen? ⟨g,0,none⟩=false:=hw1.blk.frozen 0;have hw2:=hw1.cut (L:=L) Oo;have f2:=hw2.f2;have s2:=hw2.seatAt (i:=k) (Qbo 0 (by rw [hw2.ls];exact hkn));have z2:w1.frozen? ⟨gs,k,none⟩=false:=hw1.ss.frozen k;have hw3:Qbh ((w1.setCell ⟨g,0,none⟩ (.slice (some ⟨gr,0,none⟩) L c)).setCell ⟨gs,k,none⟩ (.int .i64 0)) G g (some ⟨gr,0,none⟩) gc gs n L c _ C _:=hw2.setS (i:=k) (k:=0);have HDN:=Zh (Rfg _ hw3 HPP.o.1 HPO.o);have HA3:=Zh ((ha.set hw1.dG.1 (i:=0) (.slice (some ⟨gr,0,none⟩) L c)).set hw1.dG.2.2 (i:=k) (.int .i64 0));have i2:0≤(k:Int):=Oo
 have i3:(k:Int)<n:=Oo
 have i4:(L:Int)≤c:=Oo
 clear hw1 hw2 hw3 ha ha1 HSW HH;go_wp2_with fail
 with_reducible refine HDN.o.mono ?_
 rintro e w3 ⟨rfl,R',S',hw3,hp3,ho3,hk3,ha3⟩;have f1:=hw3.f1;have q1:=hw3.costAt hx;have HW4:=Zh hw3.drew;have HA4:=Zh (HA3.o.trans ha3).drew;have HP4:=Zh hp3;have HO4:=Zh ho3;have HK4:=Zh hk3;clear hw3 ha3 hp3 ho3 hk3 HDN HA3 f0 z0 f2 s2 z2;go_wp2_with fail
 refine wp_region_held_drew (S:=fun V=>V.cell? ⟨g,1,none⟩=some (.slice (some ⟨gc,0,none⟩) n n)∧V.cell? ⟨gc,k,none⟩=some (.int .i64 x)) Kf ⟨f1,q1⟩ (fun _=>?_);refine tzd 0 45 ?_;refine tzd 4 49 ?_;refine tzb 8 2 ?_;refine tz 10 4 ?_;refine Zd ?_;go_wp2_with fail
 refine bodyPost_ret (v:=.tuple #[.int .i64 k,.int .i64 x,.bool true]) (by simp [results,results132,go_sem]) rfl ?_;exact ⟨rfl,⟨R',S',HW4.o,HP4.o,HO4.o,fun q=>(HK4.o q).trans (HPP.o.2.1 q)⟩,HA4.o⟩
theorem Qrx (w:World)(hp:Nat→Option Int)(h:Qcx w G g n hp) :
 Calls prog 132 #[.pointer (some ⟨g,0,none⟩)] w fun e w' =>
  (((∀ q,hp q=none)∧e=.returned (.tuple #[.int .i64 0,.int .i64 0,.bool false])∧Qcx w' G g n hp) ∨
   ∃ k x,k<n∧hp k=some x∧(∀ q z,hp q=some z→x≤z)∧e=.returned (.tuple #[.int .i64 (k:Nat),.int .i64 x,.bool true])∧Qcx w' G g n (fun q=>if q=k then none else hp q))∧Aft G w w':=by
 obtain ⟨A,gc,gs,m,c,R,C,S,hw,hs,ho,hin⟩:=h;have hlr:=hw.lr;rcases m with _|L
 {refine (Rbv w hw).mono ?_;rintro e w' ⟨rfl,rfl⟩;obtain rfl:=List.eq_nil_of_length_eq_zero hlr;exact ⟨.inl ⟨fun q=>by rw [hin q];simp [Qxi],rfl,A,gc,gs,0,c,[],C,S,hw,hs,ho,hin⟩,Aft.refl _ _⟩};{obtain ⟨k,x,hk,hkn,hx,_⟩:=hs.key (i:=0) Oo;refine (Rbw w L hw hs ho k hk x hx).mono ?_;rintro e w' ⟨rfl,⟨R',S',k1,k2,k3,k4⟩,ha⟩;have hm:k∈R:=List.mem_iff_getElem?.2 ⟨0,hk⟩;refine ⟨.inr ⟨k,x,hkn,by rw [hin k];unfold Qxi;rw [if_pos hm];exact hx,fun q z hq=>Rcq hs (by rw [hlr];exact ho) hk hx ((hin q).symm.trans hq),rfl,A,gc,gs,L,c,R',C,S',k1,k2,k3,fun q=>?_⟩,ha⟩;(show (if q=k then none else hp q)=_);unfold Qxi;by_cases e:q=k;{rw [if_pos e,if_neg (fun h=>((k4 q).1 h).2 e)]};{rw [if_neg e,hin q];unfold Qxi;by_cases hq:q∈R;{rw [if_pos hq,if_pos ((k4 q).2 ⟨hq,e⟩)]};{rw [if_neg hq,if_neg (fun h=>hq ((k4 q).1 h).1)]}}}
theorem Rbu (w:World)(hp:Nat→Option Int)(h:Qcx w G g n hp) :
 Calls prog 185 #[.pointer (some ⟨g,0,none⟩)] w fun e w'=>e=.returned (.tuple #[])∧Qcx w' G g n (fun _=>none)∧Aft G w w':=by
 obtain ⟨A,gc,gs,m,c,R,C,S,hw,hs,ho,hin⟩:=h;have hlr:=hw.lr;have hcap:=hw.cap;have hn0:=hw.n0;have hle:=hs.le;have f0:=hw.f0;have HH:=Zh hw;have HS:=Zh hs
 have HNO:=Zh (show ∀ q s,S[q]?=some s→q ∉ R→s=0 from fun q s h1 h2=>by
  rcases s with _|s
  · rfl
  · exact absurd (List.mem_iff_getElem?.2 ⟨s,hs.none_ q s h1⟩) h2)
 clear hw hs ho hin;go_enter func185,ntmps185
 go_wp2_with fail
 go_loopw [9] (fun x W=>∃ (i:Nat) (S':List Nat),x=.int .i64 i∧i≤m∧Qbh W G g A gc gs n m c R C S'∧(∀ q s,S'[q]?=some s→s=0∨(S[q]?=some s∧q ∉ R.take i))∧Aft G w W) (fun x _=>m-(intOf x).toNat)
 case atStart=>exact ⟨0,S,by go_num,Oo,HH.o,fun q s h1=>.inr ⟨h1,Sm⟩,Aft.refl _ _⟩
 case round =>
  obtain ⟨i,S',rfl,him,hw,hz,ha⟩:=hrel;by_cases hlt:i<m
  {obtain ⟨gr,hgr,hfr⟩:=hw.rowBlk Oo;(subst hgr;obtain ⟨k,hk⟩:∃ k,R[i]?=some k:=⟨_,Qbo 0 Oo⟩;have hkn:=(HS.o.seat i k hk).1;have r0:=hw.rowAt hk;have f2:=hw.f2;have s0:=hw.seatAt (i:=k) (Qbo 0 (by rw [hw.ls];exact hkn));have z0:wr.frozen? ⟨gs,k,none⟩=false:=hw.ss.frozen k;have hw2:Qbh (wr.setCell ⟨gs,k,none⟩ (.int .i64 0)) G g (some ⟨gr,0,none⟩) gc gs n m c R C (S'.set k 0):=hw.setS (i:=k) (k:=0);have HW2:=Zh hw2;have HA2:=Zh (ha.set hw.dG.2.2 (i:=k) (.int .i64 0));have HZ:=Zh hz;have i1:0≤(i:Int):=Oo);(have i2:(i:Int)<m:=Oo);(have i3:0≤(k:Int):=Oo);(have i4:(k:Int)<n:=Oo);have hls:=hw.ls;clear hw hz ha hw2;(go_wp2_with fail);go_roundw;(case rel =>refine ⟨i+1,S'.set k 0,by go_num,Oo,HW2.o,fun q s h1=>?_,HA2.o⟩;by_cases e:k=q;{subst e;rw [Yg Oo] at h1;exact .inl (Yv h1).symm};{rw [Yh e] at h1;(rcases HZ.o q s h1 with h2|⟨h2,h3⟩);{exact .inl h2};{refine .inr ⟨h2,fun h4=>?_⟩;rw [List.take_add_one,hk] at h4;simp only [Option.toList_some,List.mem_append,List.mem_singleton] at h4;exact h4.elim h3 (fun e2=>e e2.symm)}});case measure=>simp [intOf];omega};{(obtain rfl:i=m:=Oo);have f0:=hw.f0;have z0:wr.frozen? ⟨g,0,none⟩=false:=hw.blk.frozen 0;have hw2:=hw.cut (L:=0) Oo;have HW2:=Zh hw2;have HA2:=Zh (ha.set hw.dG.1 (i:=0) (.slice A 0 c));have HZ:=Zh hz;clear hw hz ha hw2;(go_wp2_with fail);go_end0;refine ⟨rfl,⟨A,gc,gs,0,c,[],C,S',HW2.o,⟨HW2.o.lc,HW2.o.ls,fun q k h1=>by simp at h1,fun k q h1=>?_⟩,fun q _ h1=>by omega,fun q=>by simp [Qxi]⟩,HA2.o⟩;(rcases HZ.o k _ h1 with h2|⟨h2,h3⟩);{omega};{rw [Ye Oo] at h3;exact absurd (HNO.o k _ h2 h3) Oo}}
theorem Qde (n:Nat)(hn:n≤1000000000)(W:World):(Instr.makeSlice 37 (.int .i64 (n:Int)) (.int .i64 (n:Int))).run prog W=.ok (.slice (some ⟨W.heap.size,0,none⟩) n n) (W.alloc (.cells (Qbg (.int .i64 0) n) 2)) :=
 Qcv (P:=prog) 37 2 (.int .i64 0) 8 Qnw underlying37 rfl n Oo Oo .i64 .i64 W
theorem nis_zero (n:Nat):nis (List.replicate n 0)=List.replicate n 0:=by simp [nis]
theorem Qcx.made {W w:World}{n g gc gs:Nat} (hb:Blk W g 305 #[.slice none 0 0,.slice (some ⟨gc,0,none⟩) n n,.slice (some ⟨gs,0,none⟩) n n]) (hc:Blk W gc 2 (Qbg (.int .i64 0) n)) (hs:Blk W gs 3 (Qbg (.int .i64 0) n))
 (h1:g≠gc∧g≠gs∧gc≠gs) (h2:w.heap.size≤g∧w.heap.size≤gc∧w.heap.size≤gs) (hz:w.heap.size≤W.heap.size) (hn:n≤16384):Qcx W (fun b=>b<w.heap.size) g n (fun _=>none):=by refine ⟨none,gc,gs,0,0,[],List.replicate n 0,List.replicate n 0,⟨hb,Own.nil _ _ _ _,by rw [←Qbx];exact hc,by rw [nis_zero,←Qbx];exact hs,fun b e=>by simp [Qaa] at e,h1,⟨Oo,Oo,Oo⟩,fun b hb=>by omega,rfl,Sm,Sm,hn⟩,⟨Sm,Sm,fun i k h=>by simp at h,fun k i h=>?_⟩,fun i _ h=>by omega,fun k=>by simp [Qxi]⟩;have:=(Zs h).2;simp at this
theorem Qrw (w:World)(n:Nat)(hn:n≤16384) :
 Calls prog 130 #[.int .i64 n] w fun e w'=>∃ g,e=.returned (.pointer (some ⟨g,0,none⟩))∧Qcx w' (fun b=>b<w.heap.size) g n (fun _=>none)∧Bw w w':=by
 have hmk:=Qdp n Oo;have hmc:=Qde n Oo;have e1:max (n:Int) 0=(n:Int):=Oo
 have e2:min (n:Int) 16384=(n:Int):=Oo
 go_enter func130,ntmps130
 go_wp2_with fail
 refine wp_region_held_drew (S:=fun V=>Bw w V) Kf (Zr _ _).drew (fun _=>?_);refine tz 0 6 ?_;refine tz 2 8 ?_;refine wpAnyH_ready (rs:=[1,3]) Kf Sm ?_;refine AllReadyH.cons (o:=_) rfl (fun K hK=>?_) (AllReadyH.cons (o:=_) rfl (fun K hK=>?_) AllReadyH.nil);{go_simp;refine hK.out _ _ Qag (fun _=>?_);clear hK K;refine Zk 3 (fun K hK=>?_);go_simp;refine hK.out _ _ Qag (fun _=>?_);clear hK K;refine tz 4 10 ?_;refine Zk 5 (fun K hK=>?_);go_simp;refine hK.out _ _ Qag (fun _=>?_);clear hK K;refine tz 6 2 ?_;refine Zd ?_;(go_wp2_with fail);go_ret;refine ⟨_,rfl,Qcx.made (gc:=w.heap.size) (gs:=w.heap.size+1) Qbi Qbi Qbi ?_ ?_ ?_ hn,Qag⟩;all_goals (simp;try omega)};{go_simp;refine hK.out _ _ Qag (fun _=>?_);clear hK K;refine Zk 1 (fun K hK=>?_);go_simp;refine hK.out _ _ Qag (fun _=>?_);clear hK K;refine tz 4 10 ?_;refine Zk 5 (fun K hK=>?_);go_simp;refine hK.out _ _ Qag (fun _=>?_);clear hK K;refine tz 6 2 ?_;refine Zd ?_;(go_wp2_with fail);go_ret;refine ⟨_,rfl,Qcx.made (gs:=w.heap.size) (gc:=w.heap.size+1) Qbi Qbi Qbi ?_ ?_ ?_ hn,Qag⟩;all_goals (simp;try omega)}
end
theorem Qcx.more {W W':World}{G G':Nat→Prop}{g n:Nat}{hp:Nat→Option Int}(h:Qcx W G g n hp)(hb:Bw W W') (hG:∀ b,G' b→b<W'.heap.size∧(G b∨W.heap.size≤b)):Qcx W' G' g n hp:=by obtain ⟨A,gc,gs,m,c,R,C,S,h1,h2⟩:=h;exact ⟨A,gc,gs,m,c,R,C,S,h1.more hb hG,h2⟩
theorem Qcx.less {W:World}{G G':Nat→Prop}{g n:Nat}{hp:Nat→Option Int}(h:Qcx W G g n hp)(hG:∀ b,G' b→G b):Qcx W G' g n hp:=by obtain ⟨A,gc,gs,m,c,R,C,S,h1,h2⟩:=h;exact ⟨A,gc,gs,m,c,R,C,S,h1.more (Zr _ _) (fun b hb=>⟨h1.lt b (hG b hb),.inl (hG b hb)⟩),h2⟩
theorem Qcx.lt {W:World}{G:Nat→Prop}{g n:Nat}{hp:Nat→Option Int}(h:Qcx W G g n hp):∀ b,G b→b<W.heap.size:=by obtain ⟨A,gc,gs,m,c,R,C,S,h1,h2⟩:=h;exact h1.lt
theorem Qcx.set {W:World}{G:Nat→Prop}{g n k i:Nat}{hp:Nat→Option Int}(h:Qcx W G g n hp)(hk:G k)(v:Value):Qcx (W.setCell ⟨k,i,none⟩ v) G g n hp:=by
 obtain ⟨A,gc,gs,m,c,R,C,S,h1,h2⟩:=h;have hn:∀ b,¬G b→b≠k:=fun b hb e=>hb (e▸hk)
 exact ⟨A,gc,gs,m,c,R,C,S,⟨h1.blk.far_ (hn _ h1.dG.1) _,h1.row.far (Qac _ _ _ _) (.inr fun e=>(h1.dA k e).2.2.2 hk),h1.cs.far_ (hn _ h1.dG.2.1) _,h1.ss.far_ (hn _ h1.dG.2.2) _,h1.dA,h1.dg,h1.dG,fun b hb=>by simpa [World.setCell] using h1.lt b hb,h1.lr,h1.lc,h1.ls,h1.n0⟩,h2⟩
def Qjj (N:Qak)(t:Nat)(mk dn:List Bool)(a:Nat)(c:Int) (s:Int×(Nat→Option Int)) (b:Nat):Int×(Nat→Option Int) :=
 match N.ar[b]? with
 | none=>s
 | some y=>if Qal N a b=1152921504606846976 then s else
  (if b=t then min s.1 (c+Qal N a b) else s.1,
   if y.2.2≠1152921504606846976∧dn.getD b false=false∧mk.getD y.1.toNat false=true∧mk.getD y.2.1.toNat false=true then Qem s.2 b (c+Qal N a b+y.2.2) else s.2)
theorem Le.kept {K:Nat→Prop}{W0 W:World}(h:Qaz K W0 W):Le (msk W0 K) W:=(Qaz.msk h).trans (Qan _ _)
theorem Aft.mono {G G':Nat→Prop}{a b:World}(h:Aft G a b)(hs:∀ b,G' b→G b):Aft G' a b:=⟨h.kept.mono hs,h.size,fun B hB=>h.bel B (fun b hb=>hs b (hB b hb))⟩
theorem Rgy (f:Tri→Int)(l:List Tri)(v:Int):∃ bs:List Nat,nis bs=idx f l v∧∀ b∈bs,∃ y,l[b]?=some y∧f y=v:=by refine ⟨(idx f l v).map Int.toNat,?_,fun b hb=>?_⟩;{unfold nis;rw [List.map_map];refine (List.map_congr_left (g:=id) fun z hz=>?_).trans (List.map_id _);obtain ⟨i,a,rfl,_⟩:=Qfn.1 hz;simp};{obtain ⟨z,hz,rfl⟩:=List.mem_map.1 hb;obtain ⟨i,a,rfl,h1,h2⟩:=Qfn.1 hz;exact ⟨a,by simpa using h1,h2⟩}
theorem Qlr.gone {St:Qbu}{s:Nat}{dn hp:Nat→Option Int}{p:Nat}{c:Int}{Gone Gone':Nat→Int→Prop}(h:Qlr St s dn hp p c Gone)(hg:∀ r d,St p r d→Gone' r d→Gone r d):Qlr St s dn hp p c Gone' :=
 ⟨h.dr,h.dm,h.hr,h.off,fun q e r d h1 h2=>by
  rcases h.on q e r d h1 h2 with ⟨h3,h4⟩|h3
  · subst h3;exact .inl ⟨rfl,fun h5=>h4 (hg r d h2 h5)⟩
  · exact .inr h3,h.st,h.at_⟩
def StN (N:Qak)(mk:List Bool)(s na:Nat):Qbu:=fun a b d=>∃ y,N.ar[b]?=some y∧Qal N (if a=na then s else a) b≠1152921504606846976∧y.2.2≠1152921504606846976 ∧
 mk.getD y.1.toNat false=true∧mk.getD y.2.1.toNat false=true∧d=Qal N (if a=na then s else a) b+y.2.2
theorem stepF_dj {N:Qak}{mk dn:List Bool}{s na t p b:Nat}{dnf hp:Nat→Option Int}{c best:Int}{Gone:Nat→Int→Prop} (h:Qlr (StN N mk s na) na dnf hp p c Gone)
 (hdn:∀ q,q<na→(dn.getD q false=true↔dnf q≠none)) (hb:b<na) (hn:na=N.ar.length) :
 Qlr (StN N mk s na) na dnf (Qjj N t mk dn (if p=na then s else p) c (best,hp) b).2 p c (fun r e=>Gone r e∨r=b):=by
 obtain ⟨y,hy⟩:∃ y,N.ar[b]?=some y:=⟨_,Zg Oo⟩;unfold Qjj;rw [hy];by_cases h1:Qal N (if p=na then s else p) b=1152921504606846976;{simp only [if_pos h1];refine h.gone (fun r d hs hg=>hg.elim id (fun e=>?_));subst e;obtain ⟨_,_,h2,_⟩:=hs;exact absurd h1 h2}
 · simp only [if_neg h1];by_cases h2:y.2.2≠1152921504606846976∧mk.getD y.1.toNat false=true∧mk.getD y.2.1.toNat false=true
   · obtain ⟨h2,h3,h4⟩:=h2;(have hst:StN N mk s na p b (Qal N (if p=na then s else p) b+y.2.2):=⟨y,hy,h1,h2,h3,h4,rfl⟩;have huniq:∀ d,StN N mk s na p b d→d=Qal N (if p=na then s else p) b+y.2.2:=fun d ⟨y',hy',_,_,_,_,hd⟩=>by rw [hy] at hy';cases hy';exact hd);by_cases h5:dn.getD b false=true;{have hne:=(hdn b hb).1 h5;rw [if_neg (fun h6=>by rw [h5] at h6;exact absurd h6.2.1 Sm)];refine (h.put hst (.inl ⟨hne,fun e he=>h.dm b e he _ ((h.dr p c h.at_).step hst),rfl⟩)).gone (fun r d hs hg=>hg.elim .inl (fun e=>.inr ⟨e,?_⟩));subst e;exact huniq d hs}
     · (have h6:dn.getD b false=false:=by simpa using h5);rw [if_pos ⟨h2,h6,h3,h4⟩]
       have hno:dnf b=none:=by
        cases hd:dnf b with
        | none=>rfl
        | some e=>exact absurd ((hdn b hb).2 (by rw [hd];simp)) h5
       (have hsum:c+Qal N (if p=na then s else p) b+y.2.2=c+(Qal N (if p=na then s else p) b+y.2.2):=Oo);refine (h.put (hp':=Qem hp b (c+Qal N (if p=na then s else p) b+y.2.2)) hst (.inr ⟨hno,fun r hr=>by unfold Qem;rw [if_neg hr],?_⟩)).gone (fun r d hs hg=>hg.elim .inl (fun e=>.inr ⟨e,?_⟩))
       · rw [hsum];unfold Qem;rw [if_pos rfl]
         cases hv:hp b with
         | none=>exact .inr ⟨fun e he=>(by cases he),rfl⟩
         | some x =>by_cases hx:x≤c+(Qal N (if p=na then s else p) b+y.2.2);{exact .inl ⟨x,rfl,hx,by simp [hx]⟩};{exact .inr ⟨fun e he=>(by cases he;omega),by simp [hx]⟩}
       {subst e;exact huniq d hs}
   {rw [if_neg (fun h6=>h2 ⟨h6.1,h6.2.2.1,h6.2.2.2⟩)];refine h.gone (fun r d hs hg=>hg.elim id (fun e=>?_));subst e;obtain ⟨y',hy',_,h7,h8,h9,_⟩:=hs;rw [hy] at hy';cases hy';exact absurd ⟨h7,h8,h9⟩ h2}
theorem Rfa {N:Qak}{mk dn:List Bool}{s na t p:Nat}{dnf:Nat→Option Int}{c:Int} (hdn:∀ q,q<na→(dn.getD q false=true↔dnf q≠none)) (hn:na=N.ar.length) :
 ∀ (bs:List Nat) (st:Int×(Nat→Option Int)) (Gone:Nat→Int→Prop),(∀ b∈bs,b<na)→Qlr (StN N mk s na) na dnf st.2 p c Gone →
  Qlr (StN N mk s na) na dnf (bs.foldl (Qjj N t mk dn (if p=na then s else p) c) st).2 p c (fun r e=>Gone r e∨r∈bs)
 | [],st,Gone,_,h=>h.gone (fun r d _ hg=>hg.elim id (fun e=>by cases e))
 | b::bs,(best,hp),Gone,hb,h=>by
  have h1:=stepF_dj (t:=t) (best:=best) h hdn (hb b Sm) hn;have h2:=Rfa (t:=t) hdn hn bs _ _ (fun q hq=>hb q (by simp [hq])) h1;refine h2.gone (fun r d _ hg=>?_);rcases hg with hg|hg
  {exact .inl (.inl hg)};{(rcases List.mem_cons.1 hg with e|e);{exact .inl (.inr e)};{exact .inr e}}
theorem Qud {N:Qak}{mk dn:List Bool}{t a:Nat}{c:Int}:∀ (bs:List Nat) (st:Int×(Nat→Option Int)),(∀ b∈bs,∃ y,N.ar[b]?=some y) →
 (bs.foldl (Qjj N t mk dn a c) st).1=if t∈bs∧Qal N a t≠1152921504606846976 then min st.1 (c+Qal N a t) else st.1
 | [],st,_=>by simp
 | b::bs,st,hb=>by
  rw [List.foldl_cons,Qud bs _ (fun q hq=>hb q (by simp [hq]))];obtain ⟨y,hy⟩:=hb b Sm;have h1:(Qjj N t mk dn a c st b).1=if b=t∧Qal N a t≠1152921504606846976 then min st.1 (c+Qal N a t) else st.1:=by{unfold Qjj;rw [hy];by_cases e:b=t;{subst e;by_cases h2:Qal N a b=1152921504606846976;{simp [h2]};{simp [h2]}};{by_cases h2:Qal N a b=1152921504606846976;{simp [h2,e]};{simp [h2,e]}}}
  rw [h1];by_cases h2:Qal N a t=1152921504606846976;{simp [h2]};{by_cases e:b=t;{subst e;by_cases h3:b∈bs;{simp [h2,h3]};{simp [h2,h3]}};{(have e':¬t=b:=fun x=>e x.symm);by_cases h3:t∈bs;{simp [h2,h3,e]};{simp [h2,h3,e,e']}}}
theorem Qei {u:Int}(h:wOk u=true):u=1152921504606846976∨(0≤u∧u≤2147483648):=by unfold wOk at h;simp only [Bool.or_eq_true,Bool.and_eq_true,decide_eq_true_eq] at h;omega
theorem getD_or (l:Iz)(k:Nat)(d:Int):l.getD k d=d∨l.getD k d∈l:=by
 rcases Nat.lt_or_ge k l.length with h|h
 {exact .inr (Zm (Qbo d h))};{exact .inl (by rw [Ya,Yd h];rfl)}
theorem Qcs {N:Qak}(h:Qar N)(a b:Nat):Qal N a b=1152921504606846976∨(0≤Qal N a b∧Qal N a b≤2147483648):=by unfold Qal;split;{split;{split;{split;{rename_i t ht;(rcases getD_or t.costs ((Qje N.ar a _).1.toNat*t.outs.toNat+(Qje N.ar b _).2.toNat) 1152921504606846976 with h1|h1);{exact .inl h1};{exact Qei ((h.tabs t (Zm ht)).ok _ h1)}};{exact .inl rfl}};{exact .inl rfl}};{exact .inl rfl}};{exact .inl rfl}
def Qgd (l:Iz)(c:Int):List Bool:=l.map (fun z=>z == c)
def InK (St:Qbu)(s:Nat)(D:Int)(k q:Nat):Prop:=∃ e,Rch St s q e∧e≤(k:Int)*D
theorem InK.mono {St:Qbu}{s:Nat}{D:Int}(hD:0≤D){k q:Nat}(h:InK St s D k q):InK St s D (k+1) q:=by
 obtain ⟨e,h1,h2⟩:=h;refine ⟨e,h1,?_⟩;push_cast
 rw [Int.add_mul,Int.one_mul];omega
theorem Qnk {α:Type}{p q:α→Bool}:∀ {l:List α},(∀ x∈l,p x=true→q x=true)→(∃ x∈l,p x=false∧q x=true)→l.countP p<l.countP q
 | [],_,h=>by obtain ⟨x,hx,_⟩:=h;cases hx
 | y::l,h1,h2=>by
  have hle:l.countP p≤l.countP q:=List.countP_mono_left (fun x hx=>h1 x (by simp [hx]))
  by_cases hy:p y=true
  · have hq:=h1 y Sm hy
    obtain ⟨x,hx,hp,hx2⟩:=h2
    rcases List.mem_cons.1 hx with rfl|hx
    · rw [hy] at hp;cases hp
    · have:=Qnk (fun z hz=>h1 z (by simp [hz])) ⟨x,hx,hp,hx2⟩
      simp only [List.countP_cons,hy,hq,if_pos];omega
  · have hy':p y=false:=by simpa using hy
    by_cases hq:q y=true
    · simp only [List.countP_cons,hy',hq]
      simp;omega
    · obtain ⟨x,hx,hp,hx2⟩:=h2
      rcases List.mem_cons.1 hx with rfl|hx
      · exact absurd hx2 hq
      · have:=Qnk (fun z hz=>h1 z (by simp [hz])) ⟨x,hx,hp,hx2⟩
        have hq':q y=false:=by simpa using hq
        simp only [List.countP_cons,hy',hq']
        simpa using this
open Classical in
theorem InK.stable (St:Qbu)(s:Nat){D:Int}(hD:0≤D)(n:Nat):∃ k,k≤n∧∀ q,q<n→InK St s D (k+1) q→InK St s D k q:=by
 apply Classical.byContradiction;intro hno
 have hstep:∀ k,k≤n→(List.range n).countP (fun q=>decide (InK St s D k q))<(List.range n).countP (fun q=>decide (InK St s D (k+1) q)):=fun k hk=>by
  have h1:¬∀ q,q<n→InK St s D (k+1) q→InK St s D k q:=fun h=>hno ⟨k,hk,h⟩
  have ⟨q,h2⟩:=Classical.not_forall.1 h1;have ⟨hq,h3⟩:=Classical.not_imp.1 h2;have ⟨h4,h5⟩:=Classical.not_imp.1 h3;refine Qnk (fun x _ hx=>?_) ⟨q,by simpa using hq,by simpa using h5,by simpa using h4⟩;have:=InK.mono hD (of_decide_eq_true hx);simpa using this
 have hall:∀ k,k≤n+1→k≤(List.range n).countP (fun q=>decide (InK St s D k q)):=fun k=>by
  induction k with
  | zero=>intro _;exact Nat.zero_le _
  | succ k ih=>intro hk;have:=ih Oo;have:=hstep k Oo;omega
 have h1:=hall (n+1) (Zn _);have h2:=List.countP_le_length (p:=fun q=>decide (InK St s D (n+1) q)) (l:=List.range n);rw [List.length_range] at h2;omega
theorem Rch.bound {St:Qbu}{n:Nat}{D:Int}(hD:0≤D)(hst:∀ p q d,St p q d→q<n∧d≤D){s p:Nat}{c:Int}(h:Rch St s p c):∃ e,Rch St s p e∧e≤(n:Int)*D:=by
 obtain ⟨k,hk,hs⟩:=InK.stable St s hD n
 have hin:InK St s D k p:=by
  induction h with
  | start=>exact ⟨0,.start,Int.mul_nonneg Oo hD⟩
  | step h1 h2 ih =>obtain ⟨e,h3,h4⟩:=ih;have:=hst _ _ _ h2;refine hs _ this.1 ⟨_,h3.step h2,?_⟩;(push_cast);rw [Int.add_mul,Int.one_mul];omega
 obtain ⟨e,h1,h2⟩:=hin;exact ⟨e,h1,Int.le_trans h2 (Int.mul_le_mul_of_nonneg_right Oo hD)⟩
theorem Dij.bd {St:Qbu}{s:Nat}{dn hp:Nat→Option Int}(h:Dij St s dn hp){M:Int}(hM:∀ p c,Rch St s p c→∃ e,Rch St s p e∧e≤M){p:Nat}{c:Int}(hd:dn p=some c):c≤M:=by obtain ⟨e,h1,h2⟩:=hM p c (h.dr p c hd);have:=h.dm p c hd e h1;omega
theorem Dij.bdTake {St:Qbu}{s:Nat}{dn hp:Nat→Option Int}(h:Dij St s dn hp)(h0:∀ p q d,St p q d→0≤d){M:Int}(hM:∀ p c,Rch St s p c→∃ e,Rch St s p e∧e≤M){p:Nat}{c:Int}(hp1:hp p=some c)(hm:∀ q e,hp q=some e→c≤e):c≤M:=by obtain ⟨e,h1,h2⟩:=hM p c (h.hr p c hp1);have:=h.least h0 hp1 hm e h1;omega
theorem Rde.cut {St Out:Qbu}{s k:Nat}{dn hp:Nat→Option Int}{b:Int}(h:Dij St s dn hp)(h0:∀ p q d,St p q d→0≤d)(ho:∀ p d,Out p k d→0≤d)(he:∀ q e,hp q=some e→b≤e)
 (hb:Rde Out dn k b (fun _=>False)) (hlt:∀ p c d,dn p=some c→Out p k d→c+d<INF) (hin:b=INF→∀ q,hp q=none):Lst (Qwl St Out s k) b:=by
 rcases hb.hit with h1|⟨p,c,d,h1,h2,h3⟩
 {(right);refine ⟨h1,fun v ⟨p,c,d,h2,h3,h4⟩=>?_⟩;obtain ⟨e,h5,_⟩:=h.all h0 (hin h1) h2;have:=hb.lo p e d h5 h3 (fun h=>h);have:=hlt p e d h5 h3;omega};{(left);refine ⟨⟨p,c,d,h.dr p c h1,h2,h3⟩,fun v ⟨q,e,f,h4,h5,h6⟩=>?_⟩;have hf:=ho _ _ h5;(rcases h.wait h0 h4 with ⟨x,h7,h8⟩|⟨r,x,h7,h8⟩);{have:=hb.lo q x f h7 h5 (fun h=>h);omega};{have:=he r x h7;omega}}
theorem Dij.init (St:Qbu)(s:Nat){hp:Nat→Option Int}(h:∀ q,hp q=if q=s then some 0 else none):Dij St s (fun _=>none) hp where
 dr:=fun p c h=>by cases h
 dm:=fun p c h=>by cases h
 hr:=fun p c hc=>by
  rw [h] at hc
  by_cases e:p=s
  · subst e;simp at hc;subst hc;exact .start
  · simp [e] at hc
 off:=fun p c h=>by cases h
 on:=fun p c q d h=>by cases h
 st:=.inr ⟨0,by rw [h,if_pos rfl],Int.le_refl _⟩
theorem Qlr.init (St:Qbu)(s:Nat)(h0:∀ p q d,St p q d→0≤d){hp:Nat→Option Int}(h:∀ q,hp q=none):Qlr St s (fun q=>if q=s then some 0 else none) hp s 0 (fun _ _=>False) where
 dr:=fun p c hc=>by
  by_cases e:p=s;{subst e;simp at hc;subst hc;exact .start};{simp [e] at hc}
 dm:=fun p c hc e he=>by
  by_cases h1:p=s;{subst h1;simp at hc;subst hc;exact he.pos h0};{simp [h1] at hc}
 hr:=fun p c hc=>by rw [h] at hc;cases hc
 off:=fun p c _=>h p
 on:=fun p c q d hc _=>by
  by_cases h1:p=s;{exact .inl ⟨h1,fun h=>h⟩};{simp [h1] at hc}
 st:=.inl Sm
 at_:=by simp
theorem Rde.next {Out:Qbu}{dn:Nat→Option Int}{k p:Nat}{b b' c:Int} (h:Rde Out dn k b (fun _=>False)) (hp:dn p=none) (hle:b'≤b) (hout:∀ d,Out p k d→b'≤c+d) (hhit:b'=b∨∃ d,Out p k d∧b'=c+d) :
 Rde Out (fun q=>if q=p then some c else dn q) k b' (fun _=>False) where
 lo:=fun q e d hq ho _=>by
  by_cases e1:q=p;{subst e1;simp at hq;subst hq;exact hout d ho};{simp [e1] at hq;have:=h.lo q e d hq ho (fun h=>h);omega}
 hit:=by
  rcases hhit with e|⟨d,h1,h2⟩
  {subst e;(rcases h.hit with h1|⟨q,x,d,h1,h2,h3⟩);{exact .inl h1};{exact .inr ⟨q,x,d,by rw [if_neg (fun e=>by rw [e,hp] at h1;cases h1)];exact h1,h2,h3⟩}};{exact .inr ⟨p,c,d,Sm,h1,h2⟩}
theorem Qby {N:Qak}{a b:Nat}(h:Qal N a b≠1152921504606846976):∃ x y,N.ar[a]?=some x∧N.ar[b]?=some y∧x.2.1=y.1:=by
 unfold Qal at h;split at h
 {rename_i x y hx hy;by_cases e:x.2.1=y.1;{exact ⟨x,y,hx,hy,e⟩};{rw [if_neg e] at h;exact absurd rfl h}};{exact absurd rfl h}
def StA (N:Qak)(mk:List Bool):Qbu:=fun a b d=>∃ y,N.ar[b]?=some y∧Qal N a b≠1152921504606846976∧y.2.2≠1152921504606846976 ∧
 mk.getD y.1.toNat false=true∧mk.getD y.2.1.toNat false=true∧d=Qal N a b+y.2.2
def OuA (N:Qak):Qbu:=fun a t d=>Qal N a t≠1152921504606846976∧d=Qal N a t
def Qhc (N:Qak)(mk:List Bool)(s t:Nat)(v:Int):Prop:=Lst (Qwl (StA N mk) (OuA N) s t) v
def OuN (N:Qak)(s na:Nat):Qbu:=fun a t d=>OuA N (if a=na then s else a) t d
theorem StA.lt {N:Qak}{mk:List Bool}{a b:Nat}{d:Int}(h:StA N mk a b d):b<N.ar.length:=by obtain ⟨y,hy,_⟩:=h;exact (Zs hy).1
theorem StN.stA {N:Qak}{mk:List Bool}{s na a b:Nat}{d:Int}(h:StN N mk s na a b d):StA N mk (if a=na then s else a) b d:=h
theorem StA.bd {N:Qak}(hok:Qar N){mk:List Bool}{a b:Nat}{d:Int}(h:StA N mk a b d):0≤d∧d≤4294967296:=by obtain ⟨y,hy,h1,h2,_,_,rfl⟩:=h;have h3:=(Qcs hok a b).resolve_left h1;have h4:=(Qei (hok.arcs y (Zm hy)).w).resolve_left h2;omega
theorem OuA.bd {N:Qak}(hok:Qar N){a t:Nat}{d:Int}(h:OuA N a t d):0≤d∧d≤2147483648:=by obtain ⟨h1,rfl⟩:=h;exact (Qcs hok a t).resolve_left h1
theorem rchN {N:Qak}{mk:List Bool}{s p:Nat}{c:Int} (h:Rch (StN N mk s N.ar.length) N.ar.length p c):Rch (StA N mk) s (if p=N.ar.length then s else p) c:=by
 induction h with
 | start=>rw [if_pos rfl];exact .start
 | step _ h2 ih =>have h3:=StN.stA h2;rw [if_neg (fun e=>by have:=h3.lt;omega)];exact ih.step h3
theorem rchA {N:Qak}{mk:List Bool}{s p:Nat}{c:Int} (h:Rch (StA N mk) s p c):∃ p',p=(if p'=N.ar.length then s else p')∧Rch (StN N mk s N.ar.length) N.ar.length p' c:=by
 induction h with
 | start=>exact ⟨N.ar.length,Sm,.start⟩
 | @step p q c d _ h2 ih =>
  obtain ⟨p',e,h3⟩:=ih;refine ⟨q,by rw [if_neg (fun e=>by have:=h2.lt;omega)],h3.step ?_⟩;show StA N mk (if p'=N.ar.length then s else p') q d
  rw [←e];exact h2
theorem outN {N:Qak}{mk:List Bool}{s t:Nat}{v:Int} (h:Lst (Qwl (StN N mk s N.ar.length) (OuN N s N.ar.length) N.ar.length t) v):Qhc N mk s t v:=by refine h.conv (fun c hc=>?_) (fun c hc=>?_);{obtain ⟨p,c1,d,h1,h2,rfl⟩:=hc;exact ⟨_,⟨_,c1,d,rchN h1,h2,rfl⟩,Int.le_refl _⟩};{obtain ⟨p,c1,d,h1,h2,rfl⟩:=hc;obtain ⟨p',e,h3⟩:=rchA h1;exact ⟨_,⟨p',c1,d,h3,by unfold OuN;rw [←e];exact h2,rfl⟩,Int.le_refl _⟩}
def MB:Int:=70373039144960
theorem Qyf {N:Qak}(hok:Qar N){mk:List Bool}{s:Nat}(p:Nat)(c:Int) (h:Rch (StN N mk s N.ar.length) N.ar.length p c):∃ e,Rch (StN N mk s N.ar.length) N.ar.length p e∧e≤MB:=by obtain ⟨e,h1,h2⟩:=Rch.bound (n:=N.ar.length) (D:=4294967296) Oo (fun p q d h=>⟨(StN.stA h).lt,((StN.stA h).bd hok).2⟩) h;refine ⟨e,h1,?_⟩;have:=hok.la;unfold MB;omega
theorem Qjg {N:Qak}(hok:Qar N){mk:List Bool}{s:Nat}(p:Nat)(c:Int) (h:Rch (StA N mk) s p c):∃ e,Rch (StA N mk) s p e∧e≤MB:=by exact Kco
theorem Qhc.bd {N:Qak}(hok:Qar N){mk:List Bool}{s t:Nat}{v:Int}(h:Qhc N mk s t v):v=1152921504606846976∨(0≤v∧v≤70375186628608):=by
 rcases h with ⟨⟨p,c,d,h1,h2,rfl⟩,hm⟩|⟨h1,_⟩
 {(right);have hc:=h1.pos (fun p q d h=>(h.bd hok).1);have hd:=h2.bd hok;obtain ⟨e,h3,h4⟩:=Qjg hok p c h1;have:=hm (e+d) ⟨p,e,d,h3,h2,rfl⟩;unfold MB at h4;omega};{exact .inl h1}
structure Rav (N:Qak) (mk:List Bool) (s na t:Nat) (dnf hp:Nat→Option Int) (dn:List Bool) (best:Int):Prop where
 dij:Dij (StN N mk s na) na dnf hp
 fl:∀ q,q<na→(dn.getD q false=true↔dnf q≠none)
 bd:∀ q e,hp q=some e→e≤MB+4294967296
 best:Rde (OuN N s na) dnf t best (fun _=>False)
 ld:dn.length=na
theorem Rez {N:Qak}{mk dn:List Bool}{t a:Nat}{c B:Int}(hok:Qar N)(hc:c+4294967296≤B):∀ (bs:List Nat) (st:Int×(Nat→Option Int)),(∀ q e,st.2 q=some e→e≤B) →
 ∀ q e,(bs.foldl (Qjj N t mk dn a c) st).2 q=some e→e≤B
 | [],st,h=>h
 | b::bs,(best,hp),h=>by
  refine Rez hok hc bs _ ?_;intro q e hq;unfold Qjj at hq
  cases hy:N.ar[b]? with
  | none=>rw [hy] at hq;exact h q e hq
  | some y =>rw [hy] at hq;by_cases h1:Qal N a b=1152921504606846976;{simp only [if_pos h1] at hq;exact h q e hq};{simp only [if_neg h1] at hq;(split at hq);{rename_i h2;have h3:=(Qcs hok a b).resolve_left h1;have h4:=(Qei (hok.arcs y (Zm hy)).w).resolve_left h2.1;unfold Qem at hq;by_cases e1:q=b;{rw [if_pos e1] at hq;(split at hq);{cases hq;omega};{rename_i z hz;have:=h b z hz;split at hq <;> (cases hq;omega)}};{rw [if_neg e1] at hq;exact h q e hq}};{exact h q e hq}}
theorem Qsi {bs:List Nat}{l:Iz}(h:nis bs=l)(b:Nat):b∈bs↔(b:Int)∈l:=by rw [←h];unfold nis;constructor;{intro hb;exact List.mem_map.2 ⟨b,hb,rfl⟩};{intro hb;(obtain ⟨c,hc,e⟩:=List.mem_map.1 hb;have:c=b:=Oo);rwa [←this]}
theorem Qmw {N:Qak}{a b:Nat}{x:Tri} (hx:N.ar[a]?=some x) {bs:List Nat} (hbs:nis bs=idx (·.1) N.ar x.2.1) (h:Qal N a b≠1152921504606846976):b∈bs:=by obtain ⟨x',y,h1,h2,h3⟩:=Qby h;rw [hx] at h1;cases h1;exact (Qsi hbs b).2 (Qfn.2 ⟨b,y,rfl,h2,h3.symm⟩)
theorem outs_lt {N:Qak}{x:Tri}{bs:List Nat} (hbs:nis bs=idx (·.1) N.ar x.2.1):∀ b∈bs,b<N.ar.length:=fun b hb=>by
 obtain ⟨i,a,h1,h2,_⟩:=Qfn.1 ((Qsi hbs b).1 hb);have:b=i:=Oo
 subst this;exact (Zs h2).1
theorem Rav.fold {N:Qak}(hok:Qar N){mk dn':List Bool}{s na t p a:Nat}{dnf hp:Nat→Option Int}{best c:Int}{x:Tri}{bs:List Nat}(hn:na=N.ar.length)
 (hP:Qlr (StN N mk s na) na (fun q=>if q=p then some c else dnf q) hp p c (fun _ _=>False)) (hfl:∀ q,q<na→(dn'.getD q false=true↔(fun q=>if q=p then some c else dnf q) q≠none))
 (hbd:∀ q e,hp q=some e→e≤MB+4294967296) (hb:Rde (OuN N s na) dnf t best (fun _=>False)) (hno:dnf p=none) (hld:dn'.length=na) (hc:c≤MB)
 (ha:a=if p=na then s else p) (hx:N.ar[a]?=some x) (hbs:nis bs=idx (·.1) N.ar x.2.1) :
 Rav N mk s na t (fun q=>if q=p then some c else dnf q) (bs.foldl (Qjj N t mk dn' a c) (best,hp)).2 dn' (bs.foldl (Qjj N t mk dn' a c) (best,hp)).1:=by
 have hlt:=outs_lt hbs;have hdj:=Rfa (t:=t) hfl hn bs (best,hp) _ (fun b hb=>by rw [hn];exact hlt b hb) hP;rw [←ha] at hdj;have hbest:(bs.foldl (Qjj N t mk dn' a c) (best,hp)).1=if t∈bs∧Qal N a t≠1152921504606846976 then min best (c+Qal N a t) else best:=Qud bs (best,hp) (fun b hb=>⟨_,Zg (hlt b hb)⟩)
 refine ⟨hdj.done (fun q d hs=>.inr ?_),hfl,Rez hok Oo bs _ hbd,hb.next hno ?_ ?_ ?_,hld⟩;{obtain ⟨y,_,h1,_⟩:=hs;rw [←ha] at h1;exact Qmw hx hbs h1};{rw [hbest];by_cases h1:t∈bs∧Qal N a t≠1152921504606846976;{rw [if_pos h1];omega};{rw [if_neg h1];omega}};{intro d ⟨h1,h2⟩;rw [←ha] at h1 h2;subst h2;rw [hbest,if_pos ⟨Qmw hx hbs h1,h1⟩];omega};{rw [hbest];by_cases h1:t∈bs∧Qal N a t≠1152921504606846976;{rw [if_pos h1];by_cases h2:best≤c+Qal N a t;{exact .inl Oo};{exact .inr ⟨Qal N a t,by unfold OuN;rw [←ha];exact ⟨h1.2,rfl⟩,Oo⟩}};{rw [if_neg h1];exact .inl rfl}}
theorem Qzm (n q:Nat):(List.replicate n false).getD q false=false:=by rw [Ya,List.getElem?_replicate];split <;> rfl
theorem Rav.init {N:Qak}(hok:Qar N){mk:List Bool}{s na t:Nat}{x:Tri}{bs:List Nat}{hp:Nat→Option Int}(hn:na=N.ar.length)(he:∀ q,hp q=none) (hx:N.ar[s]?=some x) (hbs:nis bs=idx (·.1) N.ar x.2.1) :
 Rav N mk s na t (fun q=>if q=na then some 0 else none) (bs.foldl (Qjj N t mk (List.replicate na false) s 0) (1152921504606846976,hp)).2 (List.replicate na false) (bs.foldl (Qjj N t mk (List.replicate na false) s 0) (1152921504606846976,hp)).1:=by
 refine Rav.fold (dnf:=fun _=>none) (p:=na) hok hn (Qlr.init _ _ (fun p q d h=>((StN.stA h).bd hok).1) he) (fun q hq=>?_) (fun q e h=>by rw [he] at h;cases h) ⟨fun p c d h=>(by cases h),.inl rfl⟩ rfl Sm (by unfold MB;omega) Sm hx hbs;rw [Qzm];have:q≠na:=Oo
 simp [this]
theorem Rav.next {N:Qak}(hok:Qar N){mk dn:List Bool}{s na t p:Nat}{dnf hp:Nat→Option Int}{best c:Int}{x:Tri}{bs:List Nat}(h:Rav N mk s na t dnf hp dn best)(hn:na=N.ar.length)
 (hpn:p<na) (hp1:hp p=some c) (hm:∀ q e,hp q=some e→c≤e) (hx:N.ar[p]?=some x) (hbs:nis bs=idx (·.1) N.ar x.2.1) :
 Rav N mk s na t (fun q=>if q=p then some c else dnf q) (bs.foldl (Qjj N t mk (dn.set p true) p c) (best,fun q=>if q=p then none else hp q)).2 (dn.set p true) (bs.foldl (Qjj N t mk (dn.set p true) p c) (best,fun q=>if q=p then none else hp q)).1:=by
 have h0:∀ p q d,StN N mk s na p q d→0≤d:=fun p q d h=>((StN.stA h).bd hok).1
 have hno:dnf p=none:=by
  cases hd:dnf p with
  | none=>rfl
  | some e=>have:=h.dij.off p e hd;rw [hp1] at this;cases this
 refine Rav.fold hok hn (h.dij.take h0 hp1 hm) (fun q hq=>?_) (fun q e hq=>?_) h.best hno (by rw [Yq];exact h.ld) (h.dij.bdTake h0 (by subst hn;exact Qyf hok) hp1 hm) (by rw [if_neg Oo]) hx hbs;{by_cases e:q=p;{subst e;(have:q<dn.length:=by rw [h.ld];exact hq);simp [this]};{(have e':¬p=q:=fun x=>e x.symm);exact Kcu}};{by_cases e1:q=p;{rw [if_pos e1] at hq;cases hq};{rw [if_neg e1] at hq;exact h.bd q e hq}}
theorem Rav.hit {N:Qak}{mk dn:List Bool}{s na t:Nat}{dnf hp:Nat→Option Int}{best:Int}(h:Rav N mk s na t dnf hp dn best)(hok:Qar N)(hn:na=N.ar.length):0≤best∧best≤1152921504606846976:=by
 rcases h.best.hit with h1|⟨p,c,d,h1,h2,h3⟩
 {unfold INF at h1;omega};{have h4:=h.dij.bd (by subst hn;exact Qyf hok) h1;have h5:=OuA.bd hok h2;have h6:=(h.dij.dr p c h1).pos (fun p q d h=>((StN.stA h).bd hok).1);unfold MB at h4;omega}
theorem Rav.done {N:Qak}{mk dn:List Bool}{s na t:Nat}{dnf hp:Nat→Option Int}{best:Int}(h:Rav N mk s na t dnf hp dn best)(hok:Qar N)(hn:na=N.ar.length)
 (he:∀ q e,hp q=some e→best≤e):Qhc N mk s t best:=by
 subst hn;refine outN (Rde.cut h.dij (fun p q d h=>((StN.stA h).bd hok).1) (fun p d h=>(OuA.bd hok h).1) he h.best (fun p c d h1 h2=>?_) (fun e q=>?_));{have h4:=h.dij.bd (Qyf hok) h1;have h5:=OuA.bd hok h2;unfold MB at h4;unfold INF;omega}
 · cases hq:hp q with
   | none=>rfl
   | some x =>have h1:=he q x hq;have h2:=h.bd q x hq;unfold INF at e;unfold MB at h2;omega
abbrev Stp:=Nat×Int×Int
def StF (L:Nat→List Stp):Qbu:=fun p q d=>∃ s∈L p,s.2.1<0∧s.1=q∧s.2.2=d
def OuF (L:Nat→List Stp):Qbu:=fun p k d=>∃ s∈L p,s.2.1=(k:Int)∧s.2.2=d
def Qcw (dn:List Bool)(c:Int) (st:Iz×(Nat→Option Int)) (s:Stp):Iz×(Nat→Option Int) :=
 if 0≤s.2.1 then (st.1.set s.2.1.toNat (min (st.1.getD s.2.1.toNat 0) (c+s.2.2)),st.2)
 else (st.1,if dn.getD s.1 false=false then Qem st.2 s.1 (c+s.2.2) else st.2)
structure Qti (L:Nat→List Stp) (n outs:Nat) (D:Int):Prop where
 to_:∀ p,p<n→∀ s∈L p,s.2.1<0→s.1<n
 out:∀ p,p<n→∀ s∈L p,s.2.1<outs
 bd:∀ p,p<n→∀ s∈L p,0≤s.2.2∧s.2.2≤D
theorem Qzj {L:Nat→List Stp}{n:Nat}{dn:List Bool}{s p:Nat}{dnf:Nat→Option Int}{c:Int} (hdn:∀ q,q<n→(dn.getD q false=true↔dnf q≠none)) :
 ∀ (l:List Stp) (st:Iz×(Nat→Option Int)) (Gone:Nat→Int→Prop),(∀ x∈l,x∈L p∧(x.2.1<0→x.1<n))→Qlr (StF L) s dnf st.2 p c Gone →
  Qlr (StF L) s dnf (l.foldl (Qcw dn c) st).2 p c (fun r e=>Gone r e∨∃ x∈l,x.2.1<0∧x.1=r∧x.2.2=e)
 | [],st,Gone,_,h=>h.gone (fun r d _ hg=>hg.elim id (fun ⟨_,e,_⟩=>by cases e))
 | x::l,(row,hp),Gone,hb,h=>by
  have hx:=hb x Sm
  have h1:Qlr (StF L) s dnf (Qcw dn c (row,hp) x).2 p c (fun r e=>Gone r e∨(x.2.1<0∧x.1=r∧x.2.2=e)):=by
   unfold Qcw;by_cases ho:0≤x.2.1;{simp only [if_pos ho];exact h.gone (fun r d _ hg=>hg.elim id (fun e=>by omega))}
   · simp only [if_neg ho];have hst:StF L p x.1 x.2.2:=⟨x,hx.1,Oo,rfl,rfl⟩;by_cases h5:dn.getD x.1 false=true;{have hne:=(hdn x.1 (hx.2 Oo)).1 h5;rw [if_neg (by rw [h5];simp)];exact (h.put hst (.inl ⟨hne,fun e he=>h.dm x.1 e he _ ((h.dr p c h.at_).step hst),rfl⟩)).gone (fun r d _ hg=>hg.elim .inl (fun e=>.inr ⟨e.2.1.symm,e.2.2.symm⟩))}
     · (have h6:dn.getD x.1 false=false:=by simpa using h5);rw [if_pos h6]
       have hno:dnf x.1=none:=by
        cases hd:dnf x.1 with
        | none=>rfl
        | some e=>exact absurd ((hdn x.1 (hx.2 Oo)).2 (by rw [hd];simp)) h5
       refine (h.put (hp':=Qem hp x.1 (c+x.2.2)) hst (.inr ⟨hno,fun r hr=>by unfold Qem;rw [if_neg hr],?_⟩)).gone (fun r d _ hg=>hg.elim .inl (fun e=>.inr ⟨e.2.1.symm,e.2.2.symm⟩));unfold Qem;rw [if_pos rfl];dsimp only
       cases hv:hp x.1 with
       | none=>exact .inr ⟨fun e he=>(by cases he),rfl⟩
       | some z =>by_cases hz:z≤c+x.2.2;{exact .inl ⟨z,rfl,hz,by simp [hz]⟩};{exact .inr ⟨fun e he=>(by cases he;omega),by simp [hz]⟩}
  have h2:=Qzj hdn l _ _ (fun q hq=>hb q (by simp [hq])) h1;refine h2.gone (fun r d _ hg=>?_);rcases hg with hg|⟨y,hy,hg⟩
  {exact .inl (.inl hg)};{(rcases List.mem_cons.1 hy with e|e);{subst e;exact .inl (.inr hg)};{exact .inr ⟨y,e,hg⟩}}
theorem Qnn {dn:List Bool}{c:Int}:∀ (l:List Stp) (st:Iz×(Nat→Option Int)),(l.foldl (Qcw dn c) st).1.length=st.1.length
 | [],st=>rfl
 | x::l,st=>by rw [List.foldl_cons,Qnn l];unfold Qcw;split <;> simp
theorem Qzi {dn:List Bool}{c D B:Int}(hc:c+D≤B):∀ (l:List Stp) (st:Iz×(Nat→Option Int)),(∀ x∈l,x.2.2≤D)→(∀ q e,st.2 q=some e→e≤B) →
 ∀ q e,(l.foldl (Qcw dn c) st).2 q=some e→e≤B
 | [],st,_,h=>h
 | x::l,(row,hp),hb,h=>by
  have hx:=hb x Sm;refine Qzi hc l _ (fun y hy=>hb y (by simp [hy])) ?_;intro q e hq;unfold Qcw at hq;split at hq
  {exact h q e hq};{simp only at hq;(split at hq);{unfold Qem at hq;by_cases e1:q=x.1;{rw [if_pos e1] at hq;(split at hq);{cases hq;omega};{rename_i z hz;have:=h x.1 z hz;split at hq <;> (cases hq;omega)}};{rw [if_neg e1] at hq;exact h q e hq}};{exact h q e hq}}
theorem Quc {dn:List Bool}{c:Int}(k:Nat):∀ (l:List Stp) (st:Iz×(Nat→Option Int)),k<st.1.length →
 (l.foldl (Qcw dn c) st).1.getD k 0≤st.1.getD k 0∧(∀ x∈l,x.2.1=(k:Int)→(l.foldl (Qcw dn c) st).1.getD k 0≤c+x.2.2) ∧
  ((l.foldl (Qcw dn c) st).1.getD k 0=st.1.getD k 0∨∃ x∈l,x.2.1=(k:Int)∧(l.foldl (Qcw dn c) st).1.getD k 0=c+x.2.2)
 | [],st,_=>⟨Int.le_refl _,fun x hx=>(by cases hx),.inl rfl⟩
 | x::l,st,hk=>by
  have hl:(Qcw dn c st x).1.length=st.1.length:=by unfold Qcw;split <;> simp
  obtain ⟨h1,h2,h3⟩:=Quc k l (Qcw dn c st x) (by rw [hl];exact hk);rw [List.foldl_cons];have hs:(Qcw dn c st x).1.getD k 0=if x.2.1=(k:Int) then min (st.1.getD k 0) (c+x.2.2) else st.1.getD k 0:=by{unfold Qcw;by_cases ho:0≤x.2.1;{simp only [if_pos ho];by_cases e:x.2.1=(k:Int);{rw [if_pos e,e,Yl];simp [hk]};{rw [if_neg e];(have:¬x.2.1.toNat=k:=Oo);simp [this]}};{simp only [if_neg ho];rw [if_neg Oo]}}
  generalize hz:(Qcw dn c st x).1.getD k 0=z at h1 h3 hs;generalize hy:(l.foldl (Qcw dn c) (Qcw dn c st x)).1.getD k 0=y at h1 h2 h3 ⊢;refine ⟨by split at hs <;> omega,fun u hu e=>?_,?_⟩;{(rcases List.mem_cons.1 hu with rfl|hu);{rw [if_pos e] at hs;omega};{exact h2 u hu e}};{(rcases h3 with h3|⟨u,hu,h4,h5⟩);{by_cases e:x.2.1=(k:Int);{rw [if_pos e] at hs;by_cases h6:st.1.getD k 0≤c+x.2.2;{exact .inl Oo};{exact .inr ⟨x,Sm,e,Oo⟩}};{rw [if_neg e] at hs;exact .inl Oo}};{exact .inr ⟨u,by simp [hu],h4,h5⟩}}
structure LeI (L:Nat→List Stp) (n outs start:Nat) (B:Int) (dnf hp:Nat→Option Int) (dn:List Bool) (row:Iz):Prop where
 dij:Dij (StF L) start dnf hp
 fl:∀ q,q<n→(dn.getD q false=true↔dnf q≠none)
 dlt:∀ q,n≤q→dnf q=none
 bd:∀ q e,hp q=some e→e≤B
 best:∀ k,k<outs→Rde (OuF L) dnf k (row.getD k 0) (fun _=>False)
 ld:dn.length=n
 lr:row.length=outs
theorem LeI.init {L:Nat→List Stp}{n outs start:Nat}{B:Int}{hp:Nat→Option Int}{row:Iz}(hB:0≤B)(h:∀ q,hp q=if q=start then some 0 else none)(hr:row=List.replicate outs 1152921504606846976):LeI L n outs start B (fun _=>none) hp (List.replicate n false) row:=by subst hr;refine ⟨Dij.init _ _ h,fun q _=>?_,fun q _=>rfl,fun q e hq=>?_,fun k hk=>⟨fun p c d h=>(by cases h),.inl ?_⟩,Sm,Sm⟩;{rw [Ya,List.getElem?_replicate];split <;> simp};{rw [h] at hq;(split at hq);{cases hq;exact hB};{cases hq}};{rw [Ya,List.getElem?_replicate,if_pos hk];rfl}
theorem StF.bd {L:Nat→List Stp}{n outs:Nat}{D:Int}(h:Qti L n outs D) (he:∀ p,n≤p→L p=[]) {p q:Nat} {d:Int} (hs:StF L p q d):0≤d∧d≤D∧p<n∧q<n:=by
 obtain ⟨s,h1,h2,rfl,rfl⟩:=hs
 have hp:p<n:=by
  rcases Nat.lt_or_ge p n with h3|h3
  {exact h3};{rw [he p h3] at h1;cases h1}
 exact ⟨(h.bd p hp s h1).1,(h.bd p hp s h1).2,hp,h.to_ p hp s h1 h2⟩
theorem OuF.bd {L:Nat→List Stp}{n outs:Nat}{D:Int}(h:Qti L n outs D) (he:∀ p,n≤p→L p=[]) {p k:Nat} {d:Int} (hs:OuF L p k d):0≤d∧d≤D:=by
 obtain ⟨s,h1,h2,rfl⟩:=hs
 have hp:p<n:=by
  rcases Nat.lt_or_ge p n with h3|h3
  {exact h3};{rw [he p h3] at h1;cases h1}
 exact h.bd p hp s h1
theorem LeI.next {L:Nat→List Stp}{n outs start p:Nat}{M D B c:Int}{dnf hp:Nat→Option Int}{dn:List Bool}{row:Iz}(h:LeI L n outs start B dnf hp dn row)(hf:Qti L n outs D) (he:∀ p,n≤p→L p=[])
 (hM:∀ p c,Rch (StF L) start p c→∃ e,Rch (StF L) start p e∧e≤M) (hB:M+D≤B) (hpn:p<n) (hp1:hp p=some c) (hm:∀ q e,hp q=some e→c≤e) :
 LeI L n outs start B (fun q=>if q=p then some c else dnf q) ((L p).foldl (Qcw (dn.set p true) c) (row,fun q=>if q=p then none else hp q)).2 (dn.set p true) ((L p).foldl (Qcw (dn.set p true) c) (row,fun q=>if q=p then none else hp q)).1:=by
 have h0:∀ p q d,StF L p q d→0≤d:=fun p q d hs=>(StF.bd hf he hs).1
 have hno:dnf p=none:=by
  cases hd:dnf p with
  | none=>rfl
  | some e=>have:=h.dij.off p e hd;rw [hp1] at this;cases this
 have hfl:∀ q,q<n→((dn.set p true).getD q false=true↔(fun q=>if q=p then some c else dnf q) q≠none):=fun q hq=>by{by_cases e:q=p;{subst e;(have:q<dn.length:=by rw [h.ld];exact hq);simp [this]};{(have e':¬p=q:=fun x=>e x.symm);exact Kcu}};have hc:c≤M:=h.dij.bdTake h0 hM hp1 hm;have hdj:=Qzj (L:=L) (n:=n) hfl (L p) (row,fun q=>if q=p then none else hp q) _ (fun x hx=>⟨hx,fun h1=>hf.to_ p hpn x hx h1⟩) (h.dij.take h0 hp1 hm);refine ⟨hdj.done (fun q d ⟨s,h1,h2,h3,h4⟩=>.inr ⟨s,h1,h2,h3,h4⟩),hfl,fun q hq=>?_,Qzi (D:=D) Oo _ _ (fun x hx=>(hf.bd p hpn x hx).2) (fun q e hq=>?_),fun k hk=>?_,by rw [Yq];exact h.ld,by rw [Qnn];exact h.lr⟩;{(have:q≠p:=Oo);simp [this,h.dlt q hq]};{by_cases e1:q=p;{simp [e1] at hq};{simp [e1] at hq;exact h.bd q e hq}};{obtain ⟨h1,h2,h3⟩:=Quc (dn:=dn.set p true) (c:=c) k (L p) (row,fun q=>if q=p then none else hp q) (by rw [h.lr];exact hk);refine (h.best k hk).next hno h1 (fun d ⟨s,h4,h5,h6⟩=>?_) (h3.elim .inl (fun ⟨s,h4,h5,h6⟩=>.inr ⟨_,⟨s,h4,h5,rfl⟩,h6⟩));subst h6;exact h2 s h4 h5}
theorem LeI.done {L:Nat→List Stp}{n outs start:Nat}{M D B:Int}{dnf hp:Nat→Option Int}{dn:List Bool}{row:Iz}(h:LeI L n outs start B dnf hp dn row)(hf:Qti L n outs D) (he:∀ p,n≤p→L p=[])
 (hM:∀ p c,Rch (StF L) start p c→∃ e,Rch (StF L) start p e∧e≤M) (hB:M+D<1152921504606846976) (hn:∀ q,hp q=none):∀ k,k<outs→Lst (Qwl (StF L) (OuF L) start k) (row.getD k 0):=fun k hk =>
 Rde.least h.dij (fun p q d hs=>(StF.bd hf he hs).1) hn (h.best k hk) (fun p c d h1 h2=>by
  have h3:=h.dij.bd hM h1;have h4:=OuF.bd hf he h2;unfold INF;omega)
theorem Qsx {P:Iz→Prop} (h0:P []) (hs:∀ l x,P l→P (l ++[x])) (l:Iz):P l:=by
 have h:∀ l:Iz,P l.reverse:=by
  intro l
  induction l with
  | nil=>exact h0
  | cons x l ih=>rw [List.reverse_cons];exact hs _ _ ih
 have:=h l.reverse;rwa [List.reverse_reverse] at this
def Qay (l:Iz):Int:=l.foldl (fun n x=>max n (x+1)) 0
theorem Qkf (l:Iz)(x:Int):Qay (l ++[x])=max (Qay l) (x+1):=by simp [Qay]
theorem Qcu:∀ l:Iz,0≤Qay l:=by refine Qsx (by simp [Qay]) (fun l x ih=>by rw [Qkf];omega)
theorem Rac {l:Iz}{x:Int}:x∈l→x<Qay l:=by
 revert x
 refine Qsx (P:=fun l=>∀ {x:Int},x∈l→x<Qay l) (fun h=>by cases h) (fun l y ih=>?_) l;{intro x h;rw [Qkf];(rcases List.mem_append.1 h with h|h);{have:=ih h;omega};{rw [List.mem_singleton.1 h];omega}}
theorem Rgu {l:Iz}:0<Qay l→∃ x∈l,Qay l=x+1:=by refine Qsx (P:=fun l=>0<Qay l→∃ x∈l,Qay l=x+1) (fun h=>by simp [Qay] at h) (fun l y ih=>?_) l;{intro h;rw [Qkf] at h ⊢;by_cases h1:Qay l≤y+1;{exact ⟨y,Sm,Oo⟩};{have h0:=Qcu l;obtain ⟨x,hx,e⟩:=ih Oo;exact ⟨x,List.mem_append_left _ hx,Oo⟩}}
theorem Qcr {l:Iz}{n:Int}(h:∀ x∈l,x<n)(hn:0≤n):Qay l≤n:=by
 by_cases h0:0<Qay l
 {obtain ⟨x,hx,e⟩:=Rgu h0;have:=h x hx;omega};{omega}
structure Qgz (n:Nat) (l:Iz):Prop where
 len:l.length=n
 lo:∀ x∈l,0≤x
 hi:∀ x∈l,x<n
 all:∀ c:Nat,(c:Int)<Qay l→(c:Int)∈l
def Qeh (p l:Iz):Prop:=∀ (a b:Nat) (x y u v:Int),p[a]?=some x→p[b]?=some y→l[a]?=some u→l[b]?=some v→x≤y→u≤v
structure Qbt (n:Nat) (ls:Lz):Prop where
 l1:1≤ls.length
 l6:ls.length≤6
 lvl:∀ l∈ls,Qgz n l
 nest:∀ (i:Nat) p l,ls[i]?=some p→ls[i+1]?=some l→Qeh p l
noncomputable def Qfm (n:Nat) (p:Option  Iz) (l:Iz):Int:=by classical exact if l.length≠n then 1 else if Qgz n l∧∀ q,p=some q→Qeh q l then 0 else 10
theorem Qle (Q:Oz)(L cq i:Nat) (ls:Lz) (l:Iz) (w:World) (h:RdT w Q L ls) (hl:ls[i]?=some l) (hL:L≤1000000) :
 Calls prog 216 #[.agg #[.slice Q L cq],.int .i64 ((i:Int)+1)] w fun e w'=>∃ A n c,e=.returned (.slice A n c)∧RdI w A n l∧n≤c∧c≤9223372036854775807∧Bw w w':=by
 have hi:i<L:=by rw [←h.1];exact (Zs hl).1
 obtain ⟨b,o,A,n,c,l',rfl,hl',hc,hr,q1,q2⟩:=h.at_ hi;rw [hl] at hl';cases hl';have HR:=Zh hr;have i1:0≤(i:Int):=Oo
 have i2:(i:Int)<L:=Oo
 have i3:¬((i:Int)+1<1):=Oo
 have i4:¬((i:Int)+1 > L):=Oo
 have i5:(i:Int)+1-1=i:=Oo
 have hca:=fun ob=>Zc (show Bw w (w.alloc ob) from Qag) (Zn _) hc
 clear h hl hr hc;go_enter func216,ntmps216
 go_wp2;go_ret;exact ⟨_,_,_,rfl,HR.o,q1,q2,Qag⟩
theorem row_ok (Q:Oz)(L cq i:Nat) (ls:Lz) (l:Iz) (w:World) (h:RdT w Q L ls) (hl:ls[i]?=some l) (hL:L≤1000000) :
 Calls prog 217 #[.agg #[.slice Q L cq],.int .i64 ((i:Int)+1)] w fun e w'=>∃ A n c,e=.returned (.slice A n c)∧RdI w A n l∧n≤c∧c≤9223372036854775807∧Bw w w':=by
 have hi:i<L:=by rw [←h.1];exact (Zs hl).1
 obtain ⟨b,o,A,n,c,l',rfl,hl',hc,hr,q1,q2⟩:=h.at_ hi;rw [hl] at hl';cases hl';have HR:=Zh hr;have i1:0≤(i:Int):=Oo
 have i2:(i:Int)<L:=Oo
 have i3:¬((i:Int)+1<1):=Oo
 have i4:¬((i:Int)+1 > L):=Oo
 have i5:(i:Int)+1-1=i:=Oo
 have hca:=fun ob=>Zc (show Bw w (w.alloc ob) from Qag) (Zn _) hc
 clear h hl hr hc;go_enter func217,ntmps217
 go_wp2;go_ret;exact ⟨_,_,_,rfl,HR.o,q1,q2,Qag⟩
theorem Qie {l:Iz}{k:Nat}{x:Int} (h:l[k]?=some x):Qay (l.take (k+1))=max (Qay (l.take k)) (x+1):=by rw [Yf (Zs h).1,(Zs h).2,Qkf]
theorem count_ok (Q:Oz)(L cq i:Nat) (ls:Lz) (l:Iz) (w:World) (h:RdT w Q L ls) (hl:ls[i]?=some l) (hL:L≤1000000) (hb:∀ x∈l,0≤x∧x≤1000000) :
 Calls prog 178 #[.agg #[.slice Q L cq],.int .i64 ((i:Int)+1)] w fun e w'=>e=.returned (.int .i64 (Qay l))∧Bw w w':=by
 have HN:=Zh (show ∀ V,Bw w V→Calls prog 216 #[.agg #[.slice Q L cq],.int .i64 ((i:Int)+1)] V fun e w'=>∃ A n c,e=.returned (.slice A n c)∧RdI V A n l∧n≤c∧c≤9223372036854775807∧Bw V w' from fun V hV=>Qle Q L cq i ls l V (h.below hV) hl hL);have HB:=Zh hb;clear h hl hb;go_enter func178,ntmps178
 go_wp2_with fail
 (refine Qab ?_;intro w1 hw1);have hb1:Bw w w1:=by rw [hw1];exact Qag
 clear hw1;with_reducible refine (HN.o w1 hb1).mono ?_
 rintro e w2 ⟨A,n,c,rfl,hr,q1,q2,hb2⟩;have hr2:=hr.below hb2;have HLEN:=Zh hr.1;have hbw2:=Zb hb1 hb2;clear hr;go_wp2_with fail
 go_loop [5,12] (fun m q=>∃ k:Nat,k≤n∧q=.int .i64 k∧m=.int .i64 (Qay (l.take k))) (fun _ q=>n-(intOf q).toNat)
 case atStart=>exact ⟨0,Nat.zero_le _,rfl,rfl⟩
 case round =>
  obtain ⟨k,hk,rfl,rfl⟩:=hrel;by_cases hlt:k<n
  {obtain ⟨b,o,x,rfl,hx,hc⟩:=hr2.at_ hlt;(have hxb:=HB.o x (Zm hx);have HNX:=Zh (Qie hx);have i1:0≤(k:Int):=Oo);(have i2:(k:Int)<n:=Oo);clear hx;generalize Qay (l.take k)=m at *;by_cases hge:x ≥ m;{(go_wp2_with fail);(go_round);(case rel=>exact ⟨k+1,Oo,by go_num,by rw [HNX.o,show max m (x+1)=x+1 by omega]⟩);case measure=>simp [intOf];omega};{(go_wp2_with fail);(go_round);(case rel=>exact ⟨k+1,Oo,by go_num,by rw [HNX.o,show max m (x+1)=m by omega]⟩);case measure=>simp [intOf];omega}};{(obtain rfl:n=k:=Oo);have HE:=Zh (show Qay (l.take n)=Qay l by rw [Ye (by rw [HLEN.o];exact Zn _)]);go_wp2;go_ret;exact ⟨Qav HE.o,hbw2⟩}
