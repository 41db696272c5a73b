/- Parts of the proof: Hv, InA, InP, InB, InQ, LeP, Pt, Pa, Gw, Rm. -/
import Derived.Test.YtdheeddnkdhfeaaGreatDoorA5
namespace Go.Proofs.YtdheeddnkdhfeaaGreatDoor
open Go.RowKit Go.Proofs.Tryz
attribute [local go_sem ↓] Go.wp_at_zero Go.wp_at_succ
section
variable {G:Nat→Prop} {g gc gs n m c:Nat} {A:Option Addr} {R:List Nat} {C:List Int} {S:List Nat}
theorem Qbe.cut {W:World}(h:Qbe W G g A gc gs n m c R C S){L:Nat}(hL:L≤m):Qbe (W.setCell ⟨g,0,none⟩ (.slice A L c)) G g A gc gs n L c (R.take L) C S:=by
 have h1:Own W 0 3 1 A L c (Qag (nis (R.take L))):=h.row.front_ hL (by simp [Qag,nis,List.map_take]);refine ⟨?_,h1.far (Qad _ _ _ _) (.inr fun e=>(h.dA g e).1 rfl),h.cs.far_ (fun e=>h.dg.1 e.symm) _,h.ss.far_ (fun e=>h.dg.2.1 e.symm) _,h.dA,h.dg,h.dG,fun b hb=>by simpa [World.setCell] using h.lt b hb,by rw [Yw,h.lr];omega,h.lc,h.ls,h.n0⟩;exact h.blk.set_ 0 _
set_option maxHeartbeats 1000000 in
theorem Quw (w:World)(h:Qbe w G g A gc gs n 0 c R C S) :
 Calls prog 102 #[.pointer (some ⟨g,0,none⟩)] w fun e w'=>e=.returned (.tuple #[.int .i64 0,.int .i64 0,.bool false])∧w=w':=by
 have f0:=h.f0;clear h
 go_enter func102,ntmps102
 go_wp2_with fail
 refine bodyPost_ret (v:=.tuple #[.int .i64 0,.int .i64 0,.bool false]) (by simp [results,results102,go_sem]) rfl ?_;exact ⟨rfl,rfl⟩
set_option maxHeartbeats 2000000 in
theorem Qux (w:World)(L:Nat) (h:Qbe w G g A gc gs n (L+1) c R C S) (hp:HpS n R C S) (ho:Ord (at_ R C) (L+1)) (k:Nat) (hk:R[0]?=some k) (x:Int) (hx:C[k]?=some x) :
 Calls prog 102 #[.pointer (some ⟨g,0,none⟩)] w fun e w'=>e=.returned (.tuple #[.int .i64 k,.int .i64 x,.bool true])∧(∃ (R' S':List Nat),Qbe w' G g A gc gs n L c R' C S'∧HpS n R' C S'∧Ord (at_ R' C) L∧∀ q,q∈R'↔q∈R∧q≠k)∧Aft G w w':=by
 obtain ⟨gr,hgr,hfr⟩:=h.rowBlk (by omega);subst hgr;have hlr:=h.lr;have hcap:=h.cap;have hn0:=h.n0;have hkn:k<n:=(hp.seat 0 k hk).1
 obtain ⟨b,y,la,lb,lc,ld⟩:=hp.key (i:=L) (by omega);have f0:=h.f0;have r0:=h.rowAt hk;have HSW:=Zh (fun V (hV:Qbe V G g (some ⟨gr,0,none⟩) gc gs n (L+1) c R C S)=>(show Calls prog 150 #[.pointer (some ⟨g,0,none⟩),.int .i64 0,.int .i64 L] V _ from Qjz V hV hk la hkn lb))
 have HPP:=Zh (hp.pop hlr hk);have HPO:=Zh (hp.popOrd ho hlr hk);have HH:=Zh h.drew;have i1:((L:Int)+1 == 0)=false:=by simp;omega
 have e1:IntKind.i64.wrap ((L:Int)+1-1)=(L:Int):=by rw [show (L:Int)+1-1=(L:Int) by omega];exact IntWalk.i64_in _ (by omega)
 have hle:=hp.le;clear h hp ho la lc ld
 go_enter func102,ntmps102
 go_wp2_with fail
 refine wp_region_held_drew (S:=fun V=>V.cell? ⟨g,0,none⟩=some (.slice (some ⟨gr,0,none⟩) (L+1) c)∧V.cell? ⟨gr,0,none⟩=some (.int .i64 k)) (by kernel_rfl) ⟨f0,r0⟩ (fun _=>?_);refine tz 0 13 ?_;refine tz 1 14 ?_;refine tz 2 15 ?_;refine tz 3 16 ?_;refine tz 4 17 ?_;refine tz 5 18 ?_;refine tz 6 19 ?_;refine tz 7 20 ?_;refine tz 8 21 ?_;refine tz 9 22 ?_;refine tz 10 23 ?_;refine tz 11 24 ?_;refine tz 12 5 ?_;refine tz 13 6 ?_;refine Zd ?_;clear f0 r0
 go_wp2_with fail
 with_reducible refine (HSW.out _ HH.out).mono ?_
 rintro e w1 ⟨rfl,hw1,ha1⟩;have ha:Aft G w w1:=⟨ha1.kept,ha1.size,fun B hB=>(Zr B w).drew.trans (ha1.bel B hB)⟩;have f0:=hw1.f0;have z0:w1.frozen? ⟨g,0,none⟩=false:=hw1.blk.frozen 0;have hw2:=hw1.cut (L:=L) (by omega);have f2:=hw2.f2;have s2:=hw2.seatAt (i:=k) (Qbn 0 (by rw [hw2.ls];exact hkn));have z2:w1.frozen? ⟨gs,k,none⟩=false:=hw1.ss.frozen k;have hw3:Qbe ((w1.setCell ⟨g,0,none⟩ (.slice (some ⟨gr,0,none⟩) L c)).setCell ⟨gs,k,none⟩ (.int .i64 0)) G g (some ⟨gr,0,none⟩) gc gs n L c _ C _:=hw2.setS (i:=k) (k:=0);have HDN:=Zh (Qxo _ hw3 HPP.out.1 HPO.out);have HA3:=Zh ((ha.set hw1.dG.1 (i:=0) (.slice (some ⟨gr,0,none⟩) L c)).set hw1.dG.2.2 (i:=k) (.int .i64 0));have i2:(0:Int)≤(k:Int):=by omega
 have i3:(k:Int)<(n:Int):=by omega
 have i4:(L:Int)≤(c:Int):=by omega
 clear hw1 hw2 hw3 ha ha1 HSW HH
 go_wp2_with fail
 with_reducible refine HDN.out.mono ?_
 rintro e w3 ⟨rfl,R',S',hw3,hp3,ho3,hk3,ha3⟩;have f1:=hw3.f1;have q1:=hw3.costAt hx;have HW4:=Zh hw3.drew;have HA4:=Zh (HA3.out.trans ha3).drew;have HP4:=Zh hp3;have HO4:=Zh ho3;have HK4:=Zh hk3;clear hw3 ha3 hp3 ho3 hk3 HDN HA3 f0 z0 f2 s2 z2
 go_wp2_with fail
 refine wp_region_held_drew (S:=fun V=>V.cell? ⟨g,1,none⟩=some (.slice (some ⟨gc,0,none⟩) n n)∧V.cell? ⟨gc,k,none⟩=some (.int .i64 x)) (by kernel_rfl) ⟨f1,q1⟩ (fun _=>?_);refine tz 0 45 ?_;refine tz 1 46 ?_;refine tz 2 47 ?_;refine tz 3 48 ?_;refine tz 4 49 ?_;refine tz 5 50 ?_;refine tz 6 51 ?_;refine tz 7 52 ?_;refine tz 8 2 ?_;refine tz 9 3 ?_;refine tz 10 4 ?_;refine Zd ?_
 go_wp2_with fail
 refine bodyPost_ret (v:=.tuple #[.int .i64 k,.int .i64 x,.bool true]) (by simp [results,results102,go_sem]) rfl ?_;exact ⟨rfl,⟨R',S',HW4.out,HP4.out,HO4.out,fun q=>(HK4.out q).trans (HPP.out.2.1 q)⟩,HA4.out⟩
theorem Qmj (w:World)(hp:Nat→Option Int)(h:Qco w G g n hp) :
 Calls prog 102 #[.pointer (some ⟨g,0,none⟩)] w fun e w' =>
  (((∀ q,hp q=none)∧e=.returned (.tuple #[.int .i64 0,.int .i64 0,.bool false])∧Qco w' G g n hp) ∨
   ∃ k x,k<n∧hp k=some x∧(∀ q z,hp q=some z→x≤z)∧e=.returned (.tuple #[.int .i64 (k:Nat),.int .i64 x,.bool true])∧Qco w' G g n (fun q=>if q=k then none else hp q))∧Aft G w w':=by
 obtain ⟨A,gc,gs,m,c,R,C,S,hw,hs,ho,hin⟩:=h;have hlr:=hw.lr
 rcases m with _|L
 · refine (Quw w hw).mono ?_
   rintro e w' ⟨rfl,rfl⟩;obtain rfl:=List.eq_nil_of_length_eq_zero hlr;exact ⟨.inl ⟨fun q=>by rw [hin q];simp [Qqg],rfl,A,gc,gs,0,c,[],C,S,hw,hs,ho,hin⟩,Aft.refl _ _⟩
 · obtain ⟨k,x,hk,hkn,hx,_⟩:=hs.key (i:=0) (by omega)
   refine (Qux w L hw hs ho k hk x hx).mono ?_;rintro e w' ⟨rfl,⟨R',S',k1,k2,k3,k4⟩,ha⟩;have hm:k∈R:=List.mem_iff_getElem?.2 ⟨0,hk⟩;refine ⟨.inr ⟨k,x,hkn,by rw [hin k];unfold Qqg;rw [if_pos hm];exact hx,fun q z hq=>Qtr hs (by rw [hlr];exact ho) hk hx ((hin q).symm.trans hq),rfl,A,gc,gs,L,c,R',C,S',k1,k2,k3,fun q=>?_⟩,ha⟩
   show (if q=k then none else hp q)=_
   unfold Qqg
   by_cases e:q=k
   · rw [if_pos e,if_neg (fun h=>((k4 q).1 h).2 e)]
   · rw [if_neg e,hin q]
     unfold Qqg
     by_cases hq:q∈R
     · rw [if_pos hq,if_pos ((k4 q).2 ⟨hq,e⟩)]
     · rw [if_neg hq,if_neg (fun h=>hq ((k4 q).1 h).1)]
set_option maxHeartbeats 1000000 in
theorem Qma (w:World)(hp:Nat→Option Int)(h:Qco w G g n hp) :
 Calls prog 155 #[.pointer (some ⟨g,0,none⟩)] w fun e w'=>e=.returned (.tuple #[])∧Qco w' G g n (fun _=>none)∧Aft G w w':=by
 obtain ⟨A,gc,gs,m,c,R,C,S,hw,hs,ho,hin⟩:=h;have hlr:=hw.lr;have hcap:=hw.cap;have hn0:=hw.n0;have hle:=hs.le;have f0:=hw.f0;have HH:=Zh hw;have HS:=Zh hs
 have HNO:=Zh (show ∀ q s,S[q]?=some s→q ∉ R→s=0 from fun q s h1 h2=>by
  rcases s with _|s
  · rfl
  · exact absurd (List.mem_iff_getElem?.2 ⟨s,hs.none_ q s h1⟩) h2)
 clear hw hs ho hin
 go_enter func155,ntmps155
 go_wp2_with fail
 go_loopw [9] (fun x W=>∃ (i:Nat) (S':List Nat),x=.int .i64 i∧i≤m∧Qbe W G g A gc gs n m c R C S'∧(∀ q s,S'[q]?=some s→s=0∨(S[q]?=some s∧q ∉ R.take i))∧Aft G w W) (fun x _=>m-(intOf x).toNat)
 case atStart=>exact ⟨0,S,by go_num,by omega,HH.out,fun q s h1=>.inr ⟨h1,by simp⟩,Aft.refl _ _⟩
 case round =>
  obtain ⟨i,S',rfl,him,hw,hz,ha⟩:=hrel
  by_cases hlt:i<m
  · obtain ⟨gr,hgr,hfr⟩:=hw.rowBlk (by omega)
    subst hgr;obtain ⟨k,hk⟩:∃ k,R[i]?=some k:=⟨_,Qbn 0 (by omega)⟩;have hkn:=(HS.out.seat i k hk).1;have r0:=hw.rowAt hk;have f2:=hw.f2;have s0:=hw.seatAt (i:=k) (Qbn 0 (by rw [hw.ls];exact hkn));have z0:wr.frozen? ⟨gs,k,none⟩=false:=hw.ss.frozen k;have hw2:Qbe (wr.setCell ⟨gs,k,none⟩ (.int .i64 0)) G g (some ⟨gr,0,none⟩) gc gs n m c R C (S'.set k 0):=hw.setS (i:=k) (k:=0);have HW2:=Zh hw2;have HA2:=Zh (ha.set hw.dG.2.2 (i:=k) (.int .i64 0));have HZ:=Zh hz;have i1:(0:Int)≤(i:Int):=by omega
    have i2:(i:Int)<(m:Int):=by omega
    have i3:(0:Int)≤(k:Int):=by omega
    have i4:(k:Int)<(n:Int):=by omega
    have hls:=hw.ls;clear hw hz ha hw2
    go_wp2_with fail
    go_roundw
    case rel =>
     refine ⟨i+1,S'.set k 0,by go_num,by omega,HW2.out,fun q s h1=>?_,HA2.out⟩
     by_cases e:k=q
     · subst e
       rw [Yg (by omega)] at h1;exact .inl (Yv h1).symm
     · rw [Yh e] at h1
       rcases HZ.out q s h1 with h2|⟨h2,h3⟩
       · exact .inl h2
       · refine .inr ⟨h2,fun h4=>?_⟩
         rw [List.take_add_one,hk] at h4;simp only [Option.toList_some,List.mem_append,List.mem_singleton] at h4;exact h4.elim h3 (fun e2=>e e2.symm)
    case measure=>simp [intOf];omega
  · obtain rfl:i=m:=by omega
    have f0:=hw.f0;have z0:wr.frozen? ⟨g,0,none⟩=false:=hw.blk.frozen 0;have hw2:=hw.cut (L:=0) (by omega);have HW2:=Zh hw2;have HA2:=Zh (ha.set hw.dG.1 (i:=0) (.slice A 0 c));have HZ:=Zh hz;clear hw hz ha hw2
    go_wp2_with fail
    go_end0
    refine ⟨rfl,⟨A,gc,gs,0,c,[],C,S',HW2.out,⟨HW2.out.lc,HW2.out.ls,fun q k h1=>by simp at h1,fun k q h1=>?_⟩,fun q _ h1=>by omega,fun q=>by simp [Qqg]⟩,HA2.out⟩
    rcases HZ.out k _ h1 with h2|⟨h2,h3⟩
    · omega
    · rw [Ye (by omega)] at h3
      exact absurd (HNO.out k _ h2 h3) (by omega)
theorem Qet (n:Nat)(hn:n≤1000000000)(W:World):(Instr.makeSlice 36 (.int .i64 (n:Int)) (.int .i64 (n:Int))).run prog W=.ok (.slice (some ⟨W.heap.size,0,none⟩) n n) (W.alloc (.cells (Qbp (.int .i64 0) n) 2)) :=
 Qfb (P:=prog) 36 2 (.int .i64 0) 8 Qwe underlying36 rfl n (by omega) (by omega) .i64 .i64 W
theorem nis_zero (n:Nat):nis (List.replicate n 0)=List.replicate n 0:=by simp [nis]
theorem Qco.made {W w:World}{n g gc gs:Nat} (hb:Blk W g 258 #[.slice none 0 0,.slice (some ⟨gc,0,none⟩) n n,.slice (some ⟨gs,0,none⟩) n n]) (hc:Blk W gc 2 (Qbp (.int .i64 0) n)) (hs:Blk W gs 3 (Qbp (.int .i64 0) n))
 (h1:g≠gc∧g≠gs∧gc≠gs) (h2:w.heap.size≤g∧w.heap.size≤gc∧w.heap.size≤gs) (hz:w.heap.size≤W.heap.size) (hn:n≤16384):Qco W (fun b=>b<w.heap.size) g n (fun _=>none):=by
 refine ⟨none,gc,gs,0,0,[],List.replicate n 0,List.replicate n 0,⟨hb,Own.nil _ _ _ _,by rw [←Qcf];exact hc,by rw [nis_zero,←Qcf];exact hs,fun b e=>by simp [Qab] at e,h1,⟨by omega,by omega,by omega⟩,fun b hb=>by omega,rfl,by simp,by simp,hn⟩,⟨by simp,by simp,fun i k h=>by simp at h,fun k i h=>?_⟩,fun i _ h=>by omega,fun k=>by simp [Qqg]⟩;have:=(Zs h).2;simp at this
set_option maxHeartbeats 1000000 in
theorem Qmn (w:World)(n:Nat)(hn:n≤16384) :
 Calls prog 100 #[.int .i64 n] w fun e w'=>∃ g,e=.returned (.pointer (some ⟨g,0,none⟩))∧Qco w' (fun b=>b<w.heap.size) g n (fun _=>none)∧Below w.heap.size w w':=by
 have hmk:=Qde n (by omega);have hmc:=Qet n (by omega);have e1:max (n:Int) 0=(n:Int):=by omega
 have e2:min (n:Int) 16384=(n:Int):=by omega
 go_enter func100,ntmps100
 go_wp2_with fail
 refine wp_region_held_drew (S:=fun V=>Below w.heap.size w V) (by kernel_rfl) (Zr _ _).drew (fun _=>?_);refine tz 0 6 ?_;refine tz 2 8 ?_;refine wpAnyH_ready (rs:=[1,3]) (by kernel_rfl) (by simp) ?_;refine AllReadyH.cons (o:=_) rfl (fun K hK=>?_) (AllReadyH.cons (o:=_) rfl (fun K hK=>?_) AllReadyH.nil)
 · go_simp
   refine hK.out _ _ Qah (fun _=>?_);clear hK K;refine Zk 3 (fun K hK=>?_);go_simp;refine hK.out _ _ Qah (fun _=>?_);clear hK K;refine tz 4 10 ?_;refine Zk 5 (fun K hK=>?_);go_simp;refine hK.out _ _ Qah (fun _=>?_);clear hK K;refine tz 6 2 ?_;refine Zd ?_
   go_wp2_with fail
   go_ret
   refine ⟨_,rfl,Qco.made (gc:=w.heap.size) (gs:=w.heap.size+1) Qbh Qbh Qbh ?_ ?_ ?_ hn,Qah⟩
   all_goals (simp;try omega)
 · go_simp
   refine hK.out _ _ Qah (fun _=>?_);clear hK K;refine Zk 1 (fun K hK=>?_);go_simp;refine hK.out _ _ Qah (fun _=>?_);clear hK K;refine tz 4 10 ?_;refine Zk 5 (fun K hK=>?_);go_simp;refine hK.out _ _ Qah (fun _=>?_);clear hK K;refine tz 6 2 ?_;refine Zd ?_
   go_wp2_with fail
   go_ret
   refine ⟨_,rfl,Qco.made (gs:=w.heap.size) (gc:=w.heap.size+1) Qbh Qbh Qbh ?_ ?_ ?_ hn,Qah⟩
   all_goals (simp;try omega)
end
theorem Qco.more {W W':World}{G G':Nat→Prop}{g n:Nat}{hp:Nat→Option Int}(h:Qco W G g n hp)(hb:Below W.heap.size W W') (hG:∀ b,G' b→b<W'.heap.size∧(G b∨W.heap.size≤b)):Qco W' G' g n hp:=by
 obtain ⟨A,gc,gs,m,c,R,C,S,h1,h2⟩:=h;exact ⟨A,gc,gs,m,c,R,C,S,h1.more hb hG,h2⟩
theorem Qco.less {W:World}{G G':Nat→Prop}{g n:Nat}{hp:Nat→Option Int}(h:Qco W G g n hp)(hG:∀ b,G' b→G b):Qco W G' g n hp:=by
 obtain ⟨A,gc,gs,m,c,R,C,S,h1,h2⟩:=h;exact ⟨A,gc,gs,m,c,R,C,S,h1.more (Zr _ _) (fun b hb=>⟨h1.lt b (hG b hb),.inl (hG b hb)⟩),h2⟩
theorem Qco.lt {W:World}{G:Nat→Prop}{g n:Nat}{hp:Nat→Option Int}(h:Qco W G g n hp):∀ b,G b→b<W.heap.size:=by
 obtain ⟨A,gc,gs,m,c,R,C,S,h1,h2⟩:=h;exact h1.lt
theorem Qco.set {W:World}{G:Nat→Prop}{g n k i:Nat}{hp:Nat→Option Int}(h:Qco W G g n hp)(hk:G k)(v:Value):Qco (W.setCell ⟨k,i,none⟩ v) G g n hp:=by
 obtain ⟨A,gc,gs,m,c,R,C,S,h1,h2⟩:=h;have hn:∀ b,¬G b→b≠k:=fun b hb e=>hb (e▸hk)
 exact ⟨A,gc,gs,m,c,R,C,S,⟨h1.blk.far_ (hn _ h1.dG.1) _,h1.row.far (Qad _ _ _ _) (.inr fun e=>(h1.dA k e).2.2.2 hk),h1.cs.far_ (hn _ h1.dG.2.1) _,h1.ss.far_ (hn _ h1.dG.2.2) _,h1.dA,h1.dg,h1.dG,fun b hb=>by simpa [World.setCell] using h1.lt b hb,h1.lr,h1.lc,h1.ls,h1.n0⟩,h2⟩
theorem Le.kept {K:Nat→Prop}{W0 W:World}(h:Qbc K W0 W):Le (msk W0 K) W:=(Qbc.msk h).trans (Qat _ _)
theorem Aft.mono {G G':Nat→Prop}{a b:World}(h:Aft G a b)(hs:∀ b,G' b→G b):Aft G' a b:=⟨h.kept.mono hs,h.size,fun B hB=>h.bel B (fun b hb=>hs b (hB b hb))⟩
theorem nis_idx (f:Tri→Int)(l:List Tri)(v:Int):∃ bs:List Nat,nis bs=idx f l v∧∀ b∈bs,∃ y,l[b]?=some y∧f y=v:=by
 refine ⟨(idx f l v).map Int.toNat,?_,fun b hb=>?_⟩
 · unfold nis
   rw [List.map_map];refine (List.map_congr_left (g:=id) fun z hz=>?_).trans (List.map_id _);obtain ⟨i,a,rfl,_⟩:=Qfm.1 hz;simp
 · obtain ⟨z,hz,rfl⟩:=List.mem_map.1 hb
   obtain ⟨i,a,rfl,h1,h2⟩:=Qfm.1 hz;exact ⟨a,by simpa using h1,h2⟩
theorem Qmb.gone {St:Qbd}{s:Nat}{dn hp:Nat→Option Int}{p:Nat}{c:Int}{Gone Gone':Nat→Int→Prop}(h:Qmb St s dn hp p c Gone)(hg:∀ r d,St p r d→Gone' r d→Gone r d):Qmb St s dn hp p c Gone' :=
 ⟨h.dr,h.dm,h.hr,h.off,fun q e r d h1 h2=>by
  rcases h.on q e r d h1 h2 with ⟨h3,h4⟩|h3
  · subst h3;exact .inl ⟨rfl,fun h5=>h4 (hg r d h2 h5)⟩
  · exact .inr h3,h.st,h.at_⟩
def StN (N:Qam)(mk:List Bool)(s na:Nat):Qbd:=fun a b d=>∃ y,N.ar[b]?=some y∧Qaq N (if a=na then s else a) b≠1152921504606846976∧y.2.2≠1152921504606846976 ∧
 mk.getD y.1.toNat false=true∧mk.getD y.2.1.toNat false=true∧d=Qaq N (if a=na then s else a) b+y.2.2
theorem Qdq {u:Int}(h:wOk u=true):u=1152921504606846976∨(0≤u∧u≤2147483648):=by
 unfold wOk at h;simp only [Bool.or_eq_true,Bool.and_eq_true,decide_eq_true_eq] at h;omega
theorem getD_or (l:List Int)(k:Nat)(d:Int):l.getD k d=d∨l.getD k d∈l:=by
 rcases Nat.lt_or_ge k l.length with h|h
 · exact .inr (Zm (Qbn d h))
 · exact .inl (by rw [Ya,Yd h];rfl)
theorem Qcu {N:Qam}(h:Qap N)(a b:Nat):Qaq N a b=1152921504606846976∨(0≤Qaq N a b∧Qaq N a b≤2147483648):=by
 unfold Qaq
 split
 · split
   · split
     · split
       · rename_i t ht
         rcases getD_or t.costs ((Qgz N.ar a _).1.toNat*t.outs.toNat+(Qgz N.ar b _).2.toNat) 1152921504606846976 with h1|h1
         · exact .inl h1
         · exact Qdq ((h.tabs t (Zm ht)).ok _ h1)
       · exact .inl rfl
     · exact .inl rfl
   · exact .inl rfl
 · exact .inl rfl
theorem Qbu {N:Qam}{a b:Nat}(h:Qaq N a b≠1152921504606846976):∃ x y,N.ar[a]?=some x∧N.ar[b]?=some y∧x.2.1=y.1:=by
 unfold Qaq at h
 split at h
 · rename_i x y hx hy
   by_cases e:x.2.1=y.1
   · exact ⟨x,y,hx,hy,e⟩
   · rw [if_neg e] at h;exact absurd rfl h
 · exact absurd rfl h
def StA (N:Qam)(mk:List Bool):Qbd:=fun a b d=>∃ y,N.ar[b]?=some y∧Qaq N a b≠1152921504606846976∧y.2.2≠1152921504606846976 ∧
 mk.getD y.1.toNat false=true∧mk.getD y.2.1.toNat false=true∧d=Qaq N a b+y.2.2
def OuA (N:Qam):Qbd:=fun a t d=>Qaq N a t≠1152921504606846976∧d=Qaq N a t
def Qfi (N:Qam)(mk:List Bool)(s t:Nat)(v:Int):Prop:=Lst (Qqw (StA N mk) (OuA N) s t) v
theorem StA.lt {N:Qam}{mk:List Bool}{a b:Nat}{d:Int}(h:StA N mk a b d):b<N.ar.length:=by
 obtain ⟨y,hy,_⟩:=h;exact (Zs hy).1
theorem StN.stA {N:Qam}{mk:List Bool}{s na a b:Nat}{d:Int}(h:StN N mk s na a b d):StA N mk (if a=na then s else a) b d:=h
theorem StA.bd {N:Qam}(hok:Qap N){mk:List Bool}{a b:Nat}{d:Int}(h:StA N mk a b d):0≤d∧d≤4294967296:=by
 obtain ⟨y,hy,h1,h2,_,_,rfl⟩:=h;have h3:=(Qcu hok a b).resolve_left h1;have h4:=(Qdq (hok.arcs y (Zm hy)).w).resolve_left h2;omega
theorem OuA.bd {N:Qam}(hok:Qap N){a t:Nat}{d:Int}(h:OuA N a t d):0≤d∧d≤2147483648:=by
 obtain ⟨h1,rfl⟩:=h;exact (Qcu hok a t).resolve_left h1
def MB:Int:=70373039144960
theorem rchN_bd {N:Qam}(hok:Qap N){mk:List Bool}{s:Nat}(p:Nat)(c:Int) (h:Rch (StN N mk s N.ar.length) N.ar.length p c):∃ e,Rch (StN N mk s N.ar.length) N.ar.length p e∧e≤MB:=by
 obtain ⟨e,h1,h2⟩:=Rch.bound (n:=N.ar.length) (D:=4294967296) (by omega) (fun p q d h=>⟨(StN.stA h).lt,((StN.stA h).bd hok).2⟩) h;refine ⟨e,h1,?_⟩;have:=hok.la;unfold MB;omega
theorem Qie {N:Qam}(hok:Qap N){mk:List Bool}{s:Nat}(p:Nat)(c:Int) (h:Rch (StA N mk) s p c):∃ e,Rch (StA N mk) s p e∧e≤MB:=by
 exact Kbu
theorem Qfi.bd {N:Qam}(hok:Qap N){mk:List Bool}{s t:Nat}{v:Int}(h:Qfi N mk s t v):v=1152921504606846976∨(0≤v∧v≤70375186628608):=by
 rcases h with ⟨⟨p,c,d,h1,h2,rfl⟩,hm⟩|⟨h1,_⟩
 · right
   have hc:=h1.pos (fun p q d h=>(h.bd hok).1);have hd:=h2.bd hok;obtain ⟨e,h3,h4⟩:=Qie hok p c h1;have:=hm (e+d) ⟨p,e,d,h3,h2,rfl⟩;unfold MB at h4;omega
 · exact .inl h1
theorem Qrh {bs:List Nat}{l:List Int}(h:nis bs=l)(b:Nat):b∈bs↔(b:Int)∈l:=by
 rw [←h];unfold nis
 constructor
 · intro hb;exact List.mem_map.2 ⟨b,hb,rfl⟩
 · intro hb
   obtain ⟨c,hc,e⟩:=List.mem_map.1 hb;have:c=b:=by omega
   rwa [←this]
theorem outs_mem {N:Qam}{a b:Nat}{x:Tri} (hx:N.ar[a]?=some x) {bs:List Nat} (hbs:nis bs=idx (·.1) N.ar x.2.1) (h:Qaq N a b≠1152921504606846976):b∈bs:=by
 obtain ⟨x',y,h1,h2,h3⟩:=Qbu h;rw [hx] at h1
 cases h1
 exact (Qrh hbs b).2 (Qfm.2 ⟨b,y,rfl,h2,h3.symm⟩)
theorem getD_rep (n q:Nat):(List.replicate n false).getD q false=false:=by
 rw [Ya,List.getElem?_replicate]
 split <;> rfl
end Go.Proofs.YtdheeddnkdhfeaaGreatDoor
namespace Go.Proofs.YtdheeddnkdhfeaaGreatDoor
abbrev Stp:=Nat×Int×Int
def StF (L:Nat→List Stp):Qbd:=fun p q d=>∃ s∈L p,s.2.1<0∧s.1=q∧s.2.2=d
def OuF (L:Nat→List Stp):Qbd:=fun p k d=>∃ s∈L p,s.2.1=(k:Int)∧s.2.2=d
def Qcp (dn:List Bool)(c:Int) (st:List Int×(Nat→Option Int)) (s:Stp):List Int×(Nat→Option Int) :=
 if 0≤s.2.1 then (st.1.set s.2.1.toNat (min (st.1.getD s.2.1.toNat 0) (c+s.2.2)),st.2)
 else (st.1,if dn.getD s.1 false=false then Qen st.2 s.1 (c+s.2.2) else st.2)
structure Qoa (L:Nat→List Stp) (n outs:Nat) (D:Int):Prop where
 to_:∀ p,p<n→∀ s∈L p,s.2.1<0→s.1<n
 out:∀ p,p<n→∀ s∈L p,s.2.1<outs
 bd:∀ p,p<n→∀ s∈L p,0≤s.2.2∧s.2.2≤D
theorem Qsi {L:Nat→List Stp}{n:Nat}{dn:List Bool}{s p:Nat}{dnf:Nat→Option Int}{c:Int} (hdn:∀ q,q<n→(dn.getD q false=true↔dnf q≠none)) :
 ∀ (l:List Stp) (st:List Int×(Nat→Option Int)) (Gone:Nat→Int→Prop),(∀ x∈l,x∈L p∧(x.2.1<0→x.1<n))→Qmb (StF L) s dnf st.2 p c Gone →
  Qmb (StF L) s dnf (l.foldl (Qcp dn c) st).2 p c (fun r e=>Gone r e∨∃ x∈l,x.2.1<0∧x.1=r∧x.2.2=e)
 | [],st,Gone,_,h=>h.gone (fun r d _ hg=>hg.elim id (fun ⟨_,e,_⟩=>by cases e))
 | x::l,(row,hp),Gone,hb,h=>by
  have hx:=hb x (by simp)
  have h1:Qmb (StF L) s dnf (Qcp dn c (row,hp) x).2 p c (fun r e=>Gone r e∨(x.2.1<0∧x.1=r∧x.2.2=e)):=by
   unfold Qcp
   by_cases ho:0≤x.2.1
   · simp only [if_pos ho]
     exact h.gone (fun r d _ hg=>hg.elim id (fun e=>by omega))
   · simp only [if_neg ho]
     have hst:StF L p x.1 x.2.2:=⟨x,hx.1,by omega,rfl,rfl⟩
     by_cases h5:dn.getD x.1 false=true
     · have hne:=(hdn x.1 (hx.2 (by omega))).1 h5
       rw [if_neg (by rw [h5];simp)];exact (h.put hst (.inl ⟨hne,fun e he=>h.dm x.1 e he _ ((h.dr p c h.at_).step hst),rfl⟩)).gone (fun r d _ hg=>hg.elim .inl (fun e=>.inr ⟨e.2.1.symm,e.2.2.symm⟩))
     · have h6:dn.getD x.1 false=false:=by simpa using h5
       rw [if_pos h6]
       have hno:dnf x.1=none:=by
        cases hd:dnf x.1 with
        | none=>rfl
        | some e=>exact absurd ((hdn x.1 (hx.2 (by omega))).2 (by rw [hd];simp)) h5
       refine (h.put (hp':=Qen hp x.1 (c+x.2.2)) hst (.inr ⟨hno,fun r hr=>by unfold Qen;rw [if_neg hr],?_⟩)).gone (fun r d _ hg=>hg.elim .inl (fun e=>.inr ⟨e.2.1.symm,e.2.2.symm⟩));unfold Qen;rw [if_pos rfl]
       dsimp only
       cases hv:hp x.1 with
       | none=>exact .inr ⟨fun e he=>(by cases he),rfl⟩
       | some z =>
        by_cases hz:z≤c+x.2.2
        · exact .inl ⟨z,rfl,hz,by simp [hz]⟩
        · exact .inr ⟨fun e he=>(by cases he;omega),by simp [hz]⟩
  have h2:=Qsi hdn l _ _ (fun q hq=>hb q (by simp [hq])) h1;refine h2.gone (fun r d _ hg=>?_)
  rcases hg with hg|⟨y,hy,hg⟩
  · exact .inl (.inl hg)
  · rcases List.mem_cons.1 hy with e|e
    · subst e;exact .inl (.inr hg)
    · exact .inr ⟨y,e,hg⟩
theorem Qkt {dn:List Bool}{c:Int}:∀ (l:List Stp) (st:List Int×(Nat→Option Int)),(l.foldl (Qcp dn c) st).1.length=st.1.length
 | [],st=>rfl
 | x::l,st=>by
  rw [List.foldl_cons,Qkt l];unfold Qcp
  split <;> simp
theorem Qtd {dn:List Bool}{c D B:Int}(hc:c+D≤B):∀ (l:List Stp) (st:List Int×(Nat→Option Int)),(∀ x∈l,x.2.2≤D)→(∀ q e,st.2 q=some e→e≤B) →
 ∀ q e,(l.foldl (Qcp dn c) st).2 q=some e→e≤B
 | [],st,_,h=>h
 | x::l,(row,hp),hb,h=>by
  have hx:=hb x (by simp);refine Qtd hc l _ (fun y hy=>hb y (by simp [hy])) ?_;intro q e hq;unfold Qcp at hq
  split at hq
  · exact h q e hq
  · simp only at hq
    split at hq
    · unfold Qen at hq
      by_cases e1:q=x.1
      · rw [if_pos e1] at hq
        split at hq
        · cases hq;omega
        · rename_i z hz
          have:=h x.1 z hz
          split at hq <;> (cases hq;omega)
      · rw [if_neg e1] at hq;exact h q e hq
    · exact h q e hq
theorem Qpq {dn:List Bool}{c:Int}(k:Nat):∀ (l:List Stp) (st:List Int×(Nat→Option Int)),k<st.1.length →
 (l.foldl (Qcp dn c) st).1.getD k 0≤st.1.getD k 0∧(∀ x∈l,x.2.1=(k:Int)→(l.foldl (Qcp dn c) st).1.getD k 0≤c+x.2.2) ∧
  ((l.foldl (Qcp dn c) st).1.getD k 0=st.1.getD k 0∨∃ x∈l,x.2.1=(k:Int)∧(l.foldl (Qcp dn c) st).1.getD k 0=c+x.2.2)
 | [],st,_=>⟨Int.le_refl _,fun x hx=>(by cases hx),.inl rfl⟩
 | x::l,st,hk=>by
  have hl:(Qcp dn c st x).1.length=st.1.length:=by unfold Qcp;split <;> simp
  obtain ⟨h1,h2,h3⟩:=Qpq k l (Qcp dn c st x) (by rw [hl];exact hk);rw [List.foldl_cons]
  have hs:(Qcp dn c st x).1.getD k 0=if x.2.1=(k:Int) then min (st.1.getD k 0) (c+x.2.2) else st.1.getD k 0:=by
   unfold Qcp
   by_cases ho:0≤x.2.1
   · simp only [if_pos ho]
     by_cases e:x.2.1=(k:Int)
     · rw [if_pos e,e,Yl]
       simp [hk]
     · rw [if_neg e]
       have:¬x.2.1.toNat=k:=by omega
       simp [this]
   · simp only [if_neg ho]
     rw [if_neg (by omega)]
  generalize hz:(Qcp dn c st x).1.getD k 0=z at h1 h3 hs;generalize hy:(l.foldl (Qcp dn c) (Qcp dn c st x)).1.getD k 0=y at h1 h2 h3 ⊢;refine ⟨by split at hs <;> omega,fun u hu e=>?_,?_⟩
  · rcases List.mem_cons.1 hu with rfl|hu
    · rw [if_pos e] at hs;omega
    · exact h2 u hu e
  · rcases h3 with h3|⟨u,hu,h4,h5⟩
    · by_cases e:x.2.1=(k:Int)
      · rw [if_pos e] at hs
        by_cases h6:st.1.getD k 0≤c+x.2.2
        · exact .inl (by omega)
        · exact .inr ⟨x,by simp,e,by omega⟩
      · rw [if_neg e] at hs;exact .inl (by omega)
    · exact .inr ⟨u,by simp [hu],h4,h5⟩
structure LeI (L:Nat→List Stp) (n outs start:Nat) (B:Int) (dnf hp:Nat→Option Int) (dn:List Bool) (row:List Int):Prop where
 dij:Dij (StF L) start dnf hp
 fl:∀ q,q<n→(dn.getD q false=true↔dnf q≠none)
 dlt:∀ q,n≤q→dnf q=none
 bd:∀ q e,hp q=some e→e≤B
 best:∀ k,k<outs→OutB (OuF L) dnf k (row.getD k 0) (fun _=>False)
 ld:dn.length=n
 lr:row.length=outs
theorem LeI.init {L:Nat→List Stp}{n outs start:Nat}{B:Int}{hp:Nat→Option Int}{row:List Int}(hB:0≤B)(h:∀ q,hp q=if q=start then some 0 else none)(hr:row=List.replicate outs 1152921504606846976):LeI L n outs start B (fun _=>none) hp (List.replicate n false) row:=by
 subst hr;refine ⟨Dij.init _ _ h,fun q _=>?_,fun q _=>rfl,fun q e hq=>?_,fun k hk=>⟨fun p c d h=>(by cases h),.inl ?_⟩,by simp,by simp⟩
 · rw [Ya,List.getElem?_replicate]
   split <;> simp
 · rw [h] at hq
   split at hq
   · cases hq;exact hB
   · cases hq
 · rw [Ya,List.getElem?_replicate,if_pos hk]
   rfl
theorem StF.bd {L:Nat→List Stp}{n outs:Nat}{D:Int}(h:Qoa L n outs D) (he:∀ p,n≤p→L p=[]) {p q:Nat} {d:Int} (hs:StF L p q d):0≤d∧d≤D∧p<n∧q<n:=by
 obtain ⟨s,h1,h2,rfl,rfl⟩:=hs
 have hp:p<n:=by
  rcases Nat.lt_or_ge p n with h3|h3
  · exact h3
  · rw [he p h3] at h1;cases h1
 exact ⟨(h.bd p hp s h1).1,(h.bd p hp s h1).2,hp,h.to_ p hp s h1 h2⟩
theorem OuF.bd {L:Nat→List Stp}{n outs:Nat}{D:Int}(h:Qoa L n outs D) (he:∀ p,n≤p→L p=[]) {p k:Nat} {d:Int} (hs:OuF L p k d):0≤d∧d≤D:=by
 obtain ⟨s,h1,h2,rfl⟩:=hs
 have hp:p<n:=by
  rcases Nat.lt_or_ge p n with h3|h3
  · exact h3
  · rw [he p h3] at h1;cases h1
 exact h.bd p hp s h1
theorem LeI.next {L:Nat→List Stp}{n outs start p:Nat}{M D B c:Int}{dnf hp:Nat→Option Int}{dn:List Bool}{row:List Int}(h:LeI L n outs start B dnf hp dn row)(hf:Qoa L n outs D) (he:∀ p,n≤p→L p=[])
 (hM:∀ p c,Rch (StF L) start p c→∃ e,Rch (StF L) start p e∧e≤M) (hB:M+D≤B) (hpn:p<n) (hp1:hp p=some c) (hm:∀ q e,hp q=some e→c≤e) :
 LeI L n outs start B (fun q=>if q=p then some c else dnf q) ((L p).foldl (Qcp (dn.set p true) c) (row,fun q=>if q=p then none else hp q)).2 (dn.set p true) ((L p).foldl (Qcp (dn.set p true) c) (row,fun q=>if q=p then none else hp q)).1:=by
 have h0:∀ p q d,StF L p q d→0≤d:=fun p q d hs=>(StF.bd hf he hs).1
 have hno:dnf p=none:=by
  cases hd:dnf p with
  | none=>rfl
  | some e=>have:=h.dij.off p e hd;rw [hp1] at this;cases this
 have hfl:∀ q,q<n→((dn.set p true).getD q false=true↔(fun q=>if q=p then some c else dnf q) q≠none):=fun q hq=>by
  by_cases e:q=p
  · subst e
    have:q<dn.length:=by rw [h.ld];exact hq
    simp [this]
  · have e':¬p=q:=fun x=>e x.symm
    exact Kcm
 have hc:c≤M:=h.dij.bdTake h0 hM hp1 hm;have hdj:=Qsi (L:=L) (n:=n) hfl (L p) (row,fun q=>if q=p then none else hp q) _ (fun x hx=>⟨hx,fun h1=>hf.to_ p hpn x hx h1⟩) (h.dij.take h0 hp1 hm);refine ⟨hdj.done (fun q d ⟨s,h1,h2,h3,h4⟩=>.inr ⟨s,h1,h2,h3,h4⟩),hfl,fun q hq=>?_,Qtd (D:=D) (by omega) _ _ (fun x hx=>(hf.bd p hpn x hx).2) (fun q e hq=>?_),fun k hk=>?_,by rw [Yq];exact h.ld,by rw [Qkt];exact h.lr⟩
 · have:q≠p:=by omega
   simp [this,h.dlt q hq]
 · by_cases e1:q=p
   · simp [e1] at hq
   · simp [e1] at hq;exact h.bd q e hq
 · obtain ⟨h1,h2,h3⟩:=Qpq (dn:=dn.set p true) (c:=c) k (L p) (row,fun q=>if q=p then none else hp q) (by rw [h.lr];exact hk)
   refine (h.best k hk).next hno h1 (fun d ⟨s,h4,h5,h6⟩=>?_) (h3.elim .inl (fun ⟨s,h4,h5,h6⟩=>.inr ⟨_,⟨s,h4,h5,rfl⟩,h6⟩));subst h6;exact h2 s h4 h5
theorem LeI.done {L:Nat→List Stp}{n outs start:Nat}{M D B:Int}{dnf hp:Nat→Option Int}{dn:List Bool}{row:List Int}(h:LeI L n outs start B dnf hp dn row)(hf:Qoa L n outs D) (he:∀ p,n≤p→L p=[])
 (hM:∀ p c,Rch (StF L) start p c→∃ e,Rch (StF L) start p e∧e≤M) (hB:M+D<1152921504606846976) (hn:∀ q,hp q=none):∀ k,k<outs→Lst (Qqw (StF L) (OuF L) start k) (row.getD k 0):=fun k hk =>
 OutB.least h.dij (fun p q d hs=>(StF.bd hf he hs).1) hn (h.best k hk) (fun p c d h1 h2=>by
  have h3:=h.dij.bd hM h1;have h4:=OuF.bd hf he h2;unfold INF;omega)
end Go.Proofs.YtdheeddnkdhfeaaGreatDoor
namespace Go.Proofs.YtdheeddnkdhfeaaGreatDoor
open Go.RowKit Go.Proofs.Tryz
theorem Qng {P:List Int→Prop} (h0:P []) (hs:∀ l x,P l→P (l ++[x])) (l:List Int):P l:=by
 have h:∀ l:List Int,P l.reverse:=by
  intro l
  induction l with
  | nil=>exact h0
  | cons x l ih=>rw [List.reverse_cons];exact hs _ _ ih
 have:=h l.reverse
 rwa [List.reverse_reverse] at this
def Qar (l:List Int):Int:=l.foldl (fun n x=>max n (x+1)) 0
theorem Qht (l:List Int)(x:Int):Qar (l ++[x])=max (Qar l) (x+1):=by simp [Qar]
theorem Qcc:∀ l:List Int,0≤Qar l:=by
 refine Qng (by simp [Qar]) (fun l x ih=>by rw [Qht];omega)
theorem Qth {l:List Int}{x:Int}:x∈l→x<Qar l:=by
 revert x
 refine Qng (P:=fun l=>∀ {x:Int},x∈l→x<Qar l) (fun h=>by cases h) (fun l y ih=>?_) l
 · intro x h
   rw [Qht]
   rcases List.mem_append.1 h with h|h
   · have:=ih h;omega
   · rw [List.mem_singleton.1 h];omega
theorem Qwn {l:List Int}:0<Qar l→∃ x∈l,Qar l=x+1:=by
 refine Qng (P:=fun l=>0<Qar l→∃ x∈l,Qar l=x+1) (fun h=>by simp [Qar] at h) (fun l y ih=>?_) l
 · intro h
   rw [Qht] at h ⊢
   by_cases h1:Qar l≤y+1
   · exact ⟨y,by simp,by omega⟩
   · have h0:=Qcc l
     obtain ⟨x,hx,e⟩:=ih (by omega);exact ⟨x,List.mem_append_left _ hx,by omega⟩
theorem Qch {l:List Int}{n:Int}(h:∀ x∈l,x<n)(hn:0≤n):Qar l≤n:=by
 by_cases h0:0<Qar l
 · obtain ⟨x,hx,e⟩:=Qwn h0
   have:=h x hx;omega
 · omega
structure Qfx (n:Nat) (l:List Int):Prop where
 len:l.length=n
 lo:∀ x∈l,0≤x
 hi:∀ x∈l,x<n
 all:∀ c:Nat,(c:Int)<Qar l→(c:Int)∈l
def Qdo (p l:List Int):Prop:=∀ (a b:Nat) (x y u v:Int),p[a]?=some x→p[b]?=some y→l[a]?=some u→l[b]?=some v→x≤y→u≤v
structure Qaw (n:Nat) (ls:List (List Int)):Prop where
 l1:1≤ls.length
 l6:ls.length≤6
 lvl:∀ l∈ls,Qfx n l
 nest:∀ (i:Nat) p l,ls[i]?=some p→ls[i+1]?=some l→Qdo p l
noncomputable def Qep (n:Nat) (p:Option (List Int)) (l:List Int):Int:=by
 classical exact if l.length≠n then 1 else if Qfx n l∧∀ q,p=some q→Qdo q l then 0 else 10
attribute [local go_sem ↓] Go.wp_at_zero Go.wp_at_succ
theorem Qib (Q:Option Addr)(L cq i:Nat) (ls:List (List Int)) (l:List Int) (w:World) (h:RdT w Q L ls) (hl:ls[i]?=some l) (hL:L≤1000000) :
 Calls prog 193 #[.agg #[.slice Q L cq],.int .i64 ((i:Int)+1)] w fun e w'=>∃ A n c,e=.returned (.slice A n c)∧RdI w A n l∧n≤c∧c≤9223372036854775807∧Below w.heap.size w w':=by
 have hi:i<L:=by rw [←h.1];exact (Zs hl).1
 obtain ⟨b,o,A,n,c,l',rfl,hl',hc,hr,q1,q2⟩:=h.at_ hi;rw [hl] at hl'
 cases hl'
 have HR:=Zh hr;have i1:(0:Int)≤(i:Int):=by omega
 have i2:(i:Int)<(L:Int):=by omega
 have i3:¬((i:Int)+1<1):=by omega
 have i4:¬((i:Int)+1 > (L:Int)):=by omega
 have i5:(i:Int)+1-1=(i:Int):=by omega
 have hca:=fun ob=>Zc (show Below w.heap.size w (w.alloc ob) from Qah) (Zn _) hc
 clear h hl hr hc
 go_enter func193,ntmps193
 go_wp2
 go_ret
 exact ⟨_,_,_,rfl,HR.out,q1,q2,Qah⟩
theorem row_ok (Q:Option Addr)(L cq i:Nat) (ls:List (List Int)) (l:List Int) (w:World) (h:RdT w Q L ls) (hl:ls[i]?=some l) (hL:L≤1000000) :
 Calls prog 194 #[.agg #[.slice Q L cq],.int .i64 ((i:Int)+1)] w fun e w'=>∃ A n c,e=.returned (.slice A n c)∧RdI w A n l∧n≤c∧c≤9223372036854775807∧Below w.heap.size w w':=by
 have hi:i<L:=by rw [←h.1];exact (Zs hl).1
 obtain ⟨b,o,A,n,c,l',rfl,hl',hc,hr,q1,q2⟩:=h.at_ hi;rw [hl] at hl'
 cases hl'
 have HR:=Zh hr;have i1:(0:Int)≤(i:Int):=by omega
 have i2:(i:Int)<(L:Int):=by omega
 have i3:¬((i:Int)+1<1):=by omega
 have i4:¬((i:Int)+1 > (L:Int)):=by omega
 have i5:(i:Int)+1-1=(i:Int):=by omega
 have hca:=fun ob=>Zc (show Below w.heap.size w (w.alloc ob) from Qah) (Zn _) hc
 clear h hl hr hc
 go_enter func194,ntmps194
 go_wp2
 go_ret
 exact ⟨_,_,_,rfl,HR.out,q1,q2,Qah⟩
theorem Qgg {l:List Int}{k:Nat}{x:Int} (h:l[k]?=some x):Qar (l.take (k+1))=max (Qar (l.take k)) (x+1):=by
 rw [Yf (Zs h).1,(Zs h).2,Qht]
set_option maxHeartbeats 1000000 in
theorem count_ok (Q:Option Addr)(L cq i:Nat) (ls:List (List Int)) (l:List Int) (w:World) (h:RdT w Q L ls) (hl:ls[i]?=some l) (hL:L≤1000000) (hb:∀ x∈l,0≤x∧x≤1000000) :
 Calls prog 183 #[.agg #[.slice Q L cq],.int .i64 ((i:Int)+1)] w fun e w'=>e=.returned (.int .i64 (Qar l))∧Below w.heap.size w w':=by
 have HN:=Zh (show ∀ V,Below w.heap.size w V→Calls prog 193 #[.agg #[.slice Q L cq],.int .i64 ((i:Int)+1)] V fun e w'=>∃ A n c,e=.returned (.slice A n c)∧RdI V A n l∧n≤c∧c≤9223372036854775807∧Below V.heap.size V w' from fun V hV=>Qib Q L cq i ls l V (h.below hV) hl hL)
 have HB:=Zh hb;clear h hl hb
 go_enter func183,ntmps183
 go_wp2_with fail
 (refine Qae ?_;intro w1 hw1)
 have hb1:Below w.heap.size w w1:=by rw [hw1];exact Qah
 clear hw1;with_reducible refine (HN.out w1 hb1).mono ?_
 rintro e w2 ⟨A,n,c,rfl,hr,q1,q2,hb2⟩;have hr2:=hr.below hb2;have HLEN:=Zh hr.1;have hbw2:=Zb hb1 hb2;clear hr
 go_wp2_with fail
 go_loop [5,12] (fun m q=>∃ k:Nat,k≤n∧q=.int .i64 k∧m=.int .i64 (Qar (l.take k))) (fun _ q=>n-(intOf q).toNat)
 case atStart=>exact ⟨0,Nat.zero_le _,rfl,rfl⟩
 case round =>
  obtain ⟨k,hk,rfl,rfl⟩:=hrel
  by_cases hlt:k<n
  · obtain ⟨b,o,x,rfl,hx,hc⟩:=hr2.at_ hlt
    have hxb:=HB.out x (Zm hx);have HNX:=Zh (Qgg hx);have i1:(0:Int)≤(k:Int):=by omega
    have i2:(k:Int)<(n:Int):=by omega
    clear hx;generalize Qar (l.take k)=m at *
    by_cases hge:x ≥ m
    · go_wp2_with fail
      go_round
      case rel=>exact ⟨k+1,by omega,by go_num,by rw [HNX.out,show max m (x+1)=x+1 by omega]⟩
      case measure=>simp [intOf];omega
    · go_wp2_with fail
      go_round
      case rel=>exact ⟨k+1,by omega,by go_num,by rw [HNX.out,show max m (x+1)=m by omega]⟩
      case measure=>simp [intOf];omega
  · obtain rfl:n=k:=by omega
    have HE:=Zh (show Qar (l.take n)=Qar l by rw [Ye (by rw [HLEN.out];exact Zn _)])
    go_wp2
    go_ret
    exact ⟨Qca HE.out,hbw2⟩
/-! Rows of Qcj, each of the call's own, as the cells of one block. -/
def IkG (t:TypeId)(W:World)(B g n:Nat) (ls:List (List Int)):Prop :=
 ls.length=n∧g<B∧∃ cs,Blk W g t cs∧cs.size=n∧(∀ (v:Nat) (l:List Int),ls[v]?=some l→∃ A c,cs[v]?=some (.slice A l.length c)∧Own W B 3 1 A l.length c (Qag l)) ∧
  ∀ (v v':Nat) A m c A' m' c',v≠v'→cs[v]?=some (.slice A m c)→cs[v']?=some (.slice A' m' c')→Dj A A'
theorem IkG.start {t:TypeId}{W:World}{B g n:Nat}(hg:g<B) (h:Blk W g t (Qbp (.slice none 0 0) n)):IkG t W B g n (List.replicate n []):=by
 exact Kan
theorem IkG.below {t:TypeId}{W W':World}{B g n:Nat} {ls:List (List Int)} (h:IkG t W B g n ls) (hb:Below W.heap.size W W'):IkG t W' B g n ls:=by
 exact Kaz
theorem IkG.row {t:TypeId}{W:World}{B g n u:Nat} {ls:List (List Int)} (h:IkG t W B g n ls) (hu:u<n):∃ A c l,ls[u]?=some l∧W.cell? ⟨g,u,none⟩=some (.slice A l.length c)∧W.frozen? ⟨g,u,none⟩=false∧Own W B 3 1 A l.length c (Qag l):=by
 exact Kax
theorem IkG.lt {t:TypeId}{W:World}{B g n:Nat} {ls:List (List Int)} (h:IkG t W B g n ls):g<W.heap.size:=by
 obtain ⟨_,_,cs,h3,_⟩:=h;exact h3.lt
theorem IkG.push {t:TypeId}{W w':World}{B g n u c c':Nat}{A A':Option Addr} {ls:List (List Int)} {l:List Int} {k:Int} (h:IkG t W B g n ls) (hl:ls[u]?=some l) (hc:W.cell? ⟨g,u,none⟩=some (.slice A l.length c))
 (hown:Own w' B 3 1 A' (l.length+1) c' (Qag l ++Qag [k])) (hg:W.grownBy w' (Qab A)) (hat:Qab A'=Qab A∨Qab A'=some W.heap.size) :
 IkG t (w'.setCell ⟨g,u,none⟩ (.slice A' (l.length+1) c')) B g n (ls.set u (l ++[k])):=by
 obtain ⟨h1,h2,cs,h3,h4,h5,h6⟩:=h;have hu:=(Zs hl).1;have hcs:cs[u]?=some (.slice A l.length c):=by rw [←h3.cell];exact hc
 exact Kae
theorem IkG.cellG {t:TypeId}{W w':World}{B g n u:Nat}{r:Option Nat} {ls:List (List Int)} (h:IkG t W B g n ls) (hu:u<n) (hg:W.grownBy w' r) (hr:r≠some g):∃ v,w'.cell? ⟨g,u,none⟩=some v∧w'.frozen? ⟨g,u,none⟩=false:=by
 exact Kbx
/-! Arcs of a row that are marked. -/
def Qhx (P:Tri→Bool)(l:List Tri):List Int:=(l.zipIdx.filter (fun p=>P p.1)).map (fun p=>(p.2:Int))
theorem Qxw (P:Tri→Bool)(l:List Tri)(a:Tri):Qhx P (l ++[a])=Qhx P l ++(if P a then [(l.length:Int)] else []):=by
 unfold Qhx;rw [List.zipIdx_append,List.filter_append,List.map_append]
 congr 1
 cases h:P a <;> simp [h]
theorem Qkf {P:Tri→Bool}{l:List Tri}{a:Tri}{k:Nat} (h:l[k]?=some a):Qhx P (l.take (k+1))=Qhx P (l.take k) ++(if P a then [(k:Int)] else []):=by
 have hlt:=(Zs h).1;rw [Yf hlt,(Zs h).2,Qxw,Yw,Nat.min_eq_left (by omega)]
theorem Qgl (P:Tri→Bool)(l:List Tri):(Qhx P l).length≤l.length:=by
 unfold Qhx;rw [List.length_map];refine Yx (List.length_filter_le _ _) ?_;simp
theorem Qst {P:Tri→Bool}{l:List Tri}{x:Int}:x∈Qhx P l↔∃ (i:Nat) (a:Tri),x=(i:Int)∧l[i]?=some a∧P a=true:=by
 unfold Qhx;simp only [List.mem_map,List.mem_filter]
 exact Kbj
theorem Qks (P:Tri→Bool):∀ l:List Tri,(Qhx P l).Pairwise (·<·):=by
 intro l;unfold Qhx;rw [List.pairwise_map];refine List.Pairwise.filter _ ?_;rw [List.pairwise_iff_getElem];intro i j hi hj hij;simp;exact hij
def Qaa (l:List Int)(v:Int):Int:=l.getD v.toNat 0
theorem Qbb {l:List Int}{v:Nat}{p:Int} (h:l[v]?=some p):Qaa l (v:Int)=p:=by
 unfold Qaa;rw [Yl,Ya,h]
 rfl
def Qcm (l:List Int)(a:Tri):Bool:=Qaa l a.1 != Qaa l a.2.1
def Qas (ar:List Tri)(l:List Int):List Int:=Qhx (Qcm l) ar
def toC (ar:List Tri)(l:List Int)(a:Int):Int:=Qaa l (ar.getD a.toNat (0,0,0)).2.1
def frC (ar:List Tri)(l:List Int)(a:Int):Int:=Qaa l (ar.getD a.toNat (0,0,0)).1
theorem Qmg {ar:List Tri}{l:List Int}{a:Nat}{x:Tri} (h:ar[a]?=some x):toC ar l (a:Int)=Qaa l x.2.1:=by
 unfold toC;rw [Yl,Ya,h]
 rfl
theorem Qnb {ar:List Tri}{l:List Int}{a:Nat}{x:Tri} (h:ar[a]?=some x):frC ar l (a:Int)=Qaa l x.1:=by
 unfold frC;rw [Yl,Ya,h]
 rfl
def Qdu (t f:Int→Int)(X:List Int)(n:Nat):List (List Int):=(List.range (n*2)).map (fun i:Nat=>if i % 2=0 then X.filter (fun a=>t a == ((i / 2:Nat):Int)) else X.filter (fun a=>f a == ((i / 2:Nat):Int)))
theorem Qfz (t f:Int→Int)(X:List Int)(n:Nat):(Qdu t f X n).length=n*2:=by simp [Qdu]
theorem Qjh {t f:Int→Int}{X:List Int}{n c:Nat}(h:c<n):(Qdu t f X n)[c*2]?=some (X.filter (fun a=>t a == (c:Int))):=by
 unfold Qdu;rw [Yt,List.getElem?_range (by omega)];simp
theorem Qhi {t f:Int→Int}{X:List Int}{n c:Nat}(h:c<n):(Qdu t f X n)[c*2+1]?=some (X.filter (fun a=>f a == (c:Int))):=by
 unfold Qdu;rw [Yt,List.getElem?_range (by omega),Option.map_some,if_neg (by omega),show (c*2+1) / 2=c by omega]
theorem Qpf (t f:Int→Int)(n:Nat):Qdu t f [] n=List.replicate (n*2) []:=by
 apply List.ext_getElem?
 intro i
 rcases Nat.lt_or_ge i (n*2) with h|h
 · unfold Qdu
   rw [Yt,List.getElem?_range h];simp [h]
 · rw [Yd (by rw [Qfz];exact h),Yd (by simpa using h)]
theorem Qli {t f:Int→Int}{X:List Int}{n p q:Nat}{a:Int} (hp:t a=(p:Int)) (hq:f a=(q:Int)) (h1:p<n) (h2:q<n) :
 ((Qdu t f X n).set (p*2) (X.filter (fun a=>t a == (p:Int)) ++[a])).set (q*2+1) (X.filter (fun a=>f a == (q:Int)) ++[a])=Qdu t f (X ++[a]) n:=by
 apply List.ext_getElem?
 intro i
 rcases Nat.lt_or_ge i (n*2) with hi|hi
 · have hl:∀ Y,(Qdu t f Y n)[i]?=some (if i % 2=0 then Y.filter (fun a=>t a == ((i / 2:Nat):Int)) else Y.filter (fun a=>f a == ((i / 2:Nat):Int))):=fun Y=>by
    unfold Qdu;rw [Yt,List.getElem?_range hi]
    rfl
   by_cases e1:q*2+1=i
   · subst e1
     rw [Yg (by rw [Yq,Qfz];exact hi),Qhi h2,List.filter_append];simp [hq]
   · rw [Yh e1]
     by_cases e2:p*2=i
     · subst e2
       rw [Yg (by rw [Qfz];exact hi),Qjh h1,List.filter_append];simp [hp]
     · rw [Yh e2,hl,hl]
       congr 1
       rcases Nat.mod_two_eq_zero_or_one i with h0|h0
       · rw [if_pos h0,if_pos h0,List.filter_append]
         simp [hp];omega
       · rw [if_neg (by omega),if_neg (by omega),List.filter_append]
         simp [hq];omega
 · rw [Yd (by rw [Yq,Yq,Qfz];exact hi),Yd (by rw [Qfz];exact hi)]
abbrev Qak:=List Int×List Int
def RdC (w:World)(A:Option Addr)(n:Nat)(row:List Qak):Prop :=
 row.length=n∧∀ c x,row[c]?=some x→∃ b o A1 n1 c1 A2 n2 c2,A=some ⟨b,o,none⟩∧w.cell? ⟨b,o+c*2,none⟩=some (.slice A1 n1 c1)∧RdI w A1 n1 x.1∧w.cell? ⟨b,o+c*2+1,none⟩=some (.slice A2 n2 c2)∧RdI w A2 n2 x.2∧(n1≤c1∧c1≤9223372036854775807)∧n2≤c2∧c2≤9223372036854775807
theorem RdC.le {w w':World}{A:Option Addr}{n:Nat}{row:List Qak}(h:RdC w A n row)(hl:Le w w'):RdC w' A n row :=
 ⟨h.1,fun c x hx=>by
  obtain ⟨b,o,A1,n1,c1,A2,n2,c2,e,h1,h2,h3,h4,h5⟩:=h.2 c x hx;exact ⟨b,o,A1,n1,c1,A2,n2,c2,e,hl _ _ h1,h2.le hl,hl _ _ h3,h4.le hl,h5⟩⟩
theorem RdC.at_ {w:World}{A:Option Addr}{n c:Nat}{row:List Qak}(h:RdC w A n row)(hc:c<n):∃ x b o A1 n1 c1 A2 n2 c2,row[c]?=some x∧A=some ⟨b,o,none⟩∧w.cell? ⟨b,o+c*2,none⟩=some (.slice A1 n1 c1)∧RdI w A1 n1 x.1∧w.cell? ⟨b,o+c*2+1,none⟩=some (.slice A2 n2 c2)∧RdI w A2 n2 x.2∧(n1≤c1∧c1≤9223372036854775807)∧n2≤c2∧c2≤9223372036854775807:=by
 have hl:c<row.length:=by rw [h.1];exact hc
 obtain ⟨b,o,A1,n1,c1,A2,n2,c2,h1⟩:=h.2 c _ (Zg hl);exact ⟨_,b,o,A1,n1,c1,A2,n2,c2,Zg hl,h1⟩
def RdG (w:World)(A:Option Addr)(n:Nat) (gs:List (List Qak)):Prop :=
 gs.length=n∧∀ i row,gs[i]?=some row→∃ b o A' n' c',A=some ⟨b,o,none⟩∧w.cell? ⟨b,o+i,none⟩=some (.slice A' n' c')∧RdC w A' n' row∧n'≤c'∧c'≤9223372036854775807
theorem RdG.le {w w':World}{A:Option Addr}{n:Nat} {gs:List (List Qak)} (h:RdG w A n gs) (hl:Le w w'):RdG w' A n gs :=
 ⟨h.1,fun i row hx=>by
  obtain ⟨b,o,A',n',c',e,h1,h2,h3⟩:=h.2 i row hx;exact ⟨b,o,A',n',c',e,hl _ _ h1,h2.le hl,h3⟩⟩
theorem RdG.at_ {w:World}{A:Option Addr}{n i:Nat} {gs:List (List Qak)} (h:RdG w A n gs) (hi:i<n):∃ row b o A' n' c',gs[i]?=some row∧A=some ⟨b,o,none⟩∧w.cell? ⟨b,o+i,none⟩=some (.slice A' n' c')∧RdC w A' n' row∧n'≤c'∧c'≤9223372036854775807:=by
 have hl:i<gs.length:=by rw [h.1];exact hi
 obtain ⟨b,o,A',n',c',h1⟩:=h.2 i _ (Zg hl);exact ⟨_,b,o,A',n',c',Zg hl,h1⟩
def Qaf (ar:List Tri)(l:List Int):List Qak:=(List.range (Qar l).toNat).map (fun c:Nat=>((Qas ar l).filter (fun a=>toC ar l a == (c:Int)),(Qas ar l).filter (fun a=>frC ar l a == (c:Int))))
theorem Qan (ar:List Tri)(l:List Int):(Qaf ar l).length=(Qar l).toNat:=by simp [Qaf]
theorem Qci {ar:List Tri}{l:List Int}{c:Nat} (h:c<(Qar l).toNat):(Qaf ar l)[c]?=some ((Qas ar l).filter (fun a=>toC ar l a == (c:Int)),(Qas ar l).filter (fun a=>frC ar l a == (c:Int))):=by
 unfold Qaf;rw [Yt,List.getElem?_range h]
 rfl
def Qac (ar:List Tri) (ls:List (List Int)):List (List Qak):=ls.map (Qaf ar)
set_option maxHeartbeats 1000000 in
theorem Qtt (g a:Nat)(N:Qam)(A:Option Addr)(n c u v:Nat)(z p q:Int)(l:List Int)(w:World)(h:Qes w g N)(hr:RdI w A n l) (hx:N.ar[a]?=some ((u:Int),(v:Int),z)) (hu:u<n) (hv:v<n) (hp:l[u]?=some p) (hq:l[v]?=some q) :
 Calls prog 195 #[.pointer (some ⟨g,0,none⟩),.slice A n c,.int .i64 a] w fun e w'=>e=.returned (.tuple #[.int .i64 p,.int .i64 q,.bool true])∧∃ k,w'=w.drewN k:=by
 have HF:=Zh (Qgf g a N _ w h hx);have HT:=Zh (Qeu g a N _ w h hx);obtain ⟨b,o,p',rfl,hp',cp⟩:=hr.at_ hu;rw [hp] at hp'
 cases hp'
 obtain ⟨b',o',q',e,hq',cq⟩:=hr.at_ hv;rw [hq] at hq'
 cases hq'
 cases e
 have i1:(0:Int)≤(u:Int):=by omega
 have i2:(u:Int)<(n:Int):=by omega
 have i3:(0:Int)≤(v:Int):=by omega
 have i4:(v:Int)<(n:Int):=by omega
 clear h hr hx hp hq
 go_enter func195,ntmps195
 go_wp2_with fail
 with_reducible refine HF.out.mono ?_
 rintro e w' ⟨rfl,rfl⟩
 go_wp2_with fail
 with_reducible refine HT.out.mono ?_
 rintro e w' ⟨rfl,rfl⟩
 go_wp2_with fail
 go_quiet (fail)
 go_wp2_with fail
 go_ret3
 exact ⟨rfl,_,rfl⟩
set_option maxHeartbeats 1000000 in
theorem cross_ok (g:Nat)(N:Qam)(Q:Option Addr)(L cq i n:Nat) (ls:List (List Int)) (l:List Int) (w:World) (h:Qes w g N) (hN:Qap N) (hq:RdT w Q L ls) (hl:ls[i]?=some l) (hL:L≤1000000) (hlo:Qfx n l) (hn:N.vs.length=n) :
 Calls prog 184 #[.pointer (some ⟨g,0,none⟩),.agg #[.slice Q L cq],.int .i64 ((i:Int)+1)] w fun e w'=>∃ A c,e=.returned (.slice A (Qas N.ar l).length c)∧RdI w' A (Qas N.ar l).length (Qas N.ar l)∧(∀ b,Qab A=some b→w.heap.size≤b∧b<w'.heap.size)∧Below w.heap.size w w':=by
 have HG:=Zh h;have HN:=Zh hN;have hn4:n≤4096:=by rw [←hn];exact hN.lv
 have hm:N.ar.length≤16384:=hN.la;have HR:=Zh (show ∀ V,Below w.heap.size w V→Calls prog 194 #[.agg #[.slice Q L cq],.int .i64 ((i:Int)+1)] V fun e w'=>∃ A n c,e=.returned (.slice A n c)∧RdI V A n l∧n≤c∧c≤9223372036854775807∧Below V.heap.size V w' from fun V hV=>row_ok Q L cq i ls l V (hq.below hV) hl hL)
 have HLO:=Zh hlo;have HVN:=Zh hn;clear h hN hq hl hlo hn
 go_enter func184,ntmps184
 go_wp2_with fail
 (refine Qae ?_;intro w1 hw1)
 have hb1:Below w.heap.size w w1:=by rw [hw1];exact Qah
 clear hw1;with_reducible refine (HR.out w1 hb1).mono ?_
 rintro e w2 ⟨A,n',c,rfl,hr,q1,q2,hb2⟩;obtain rfl:n=n':=by rw [←hr.1];exact HLO.out.len.symm
 have hr2:=hr.below hb2;have hbw2:=Zb hb1 hb2;have hz0:=hbw2.size;clear hr hb2 hb1
 go_wp2_with fail
 with_reducible refine (Qgb g N w2 (HG.out.below hbw2)).mono ?_
 rintro e w' ⟨rfl,rfl⟩
 go_wp2_with fail
 generalize hM:N.ar.length=M at *;have HM:=Zh hM;clear hM
 go_loopw [8,18] (fun x q W=>Below w.heap.size w W∧w2.heap.size≤W.heap.size∧Below w2.heap.size w2 W∧∃ (j:Nat) (X:Option Addr) (k cx:Nat),j≤M∧q=.int .i64 j∧x=.slice X k cx∧k≤j∧Own W w2.heap.size 3 1 X k cx (Qag (Qhx (Qcm l) (N.ar.take j)))) (fun _ q _=>M-(intOf q).toNat)
 case atStart=>exact ⟨hbw2,Zn _,Zr _ _,0,none,0,0,Nat.zero_le _,rfl,rfl,Zn _,Own.nil _ _ _ _⟩
 case round =>
  clear hbw2;obtain ⟨hbl,hsz,hb2r,j,X,k,cx,hj,rfl,rfl,hkj,hown⟩:=hrel
  by_cases hlt:j<M
  · obtain ⟨⟨fx,tx,zx⟩,hx⟩:∃ x,N.ar[j]?=some x:=⟨_,Zg (by rw [HM.out];exact hlt)⟩
    have hok:=HN.out.arcs _ (Zm hx);have f0:=hok.f0;have f1:=hok.f1;have g0:=hok.g0;have g1:=hok.g1;simp only at f0 f1 g0 g1;rw [HVN.out] at f1 g1;obtain ⟨u,rfl⟩:∃ u:Nat,fx=u:=⟨fx.toNat,by omega⟩;obtain ⟨v,rfl⟩:∃ v:Nat,tx=v:=⟨tx.toNat,by omega⟩;have hu:u<n:=by omega
    have hv:v<n:=by omega
    obtain ⟨p,hp⟩:∃ p,l[u]?=some p:=⟨_,Zg (by rw [HLO.out.len];exact hu)⟩;obtain ⟨q,hq⟩:∃ q,l[v]?=some q:=⟨_,Zg (by rw [HLO.out.len];exact hv)⟩;have HE:=Zh (Qtt g j N A n c u v zx p q l wr (HG.out.below hbl) (hr2.below hb2r) hx hu hv hp hq);have HNX:=Zh (Qkf (P:=Qcm l) hx);have hcb:Qcm l ((u:Int),(v:Int),zx)=(p != q):=by unfold Qcm;simp only;rw [Qbb hp,Qbb hq]
    rw [hcb] at HNX;clear hx hok hcb hp hq
    go_wp2_with fail
    with_reducible refine HE.out.mono ?_
    rintro e w4 ⟨rfl,nq,hw4⟩;have hbl4:Below w.heap.size w w4:=by rw [hw4];exact Qax hbl _
    have hb24:Below w2.heap.size w2 w4:=by rw [hw4];exact Qax hb2r _
    have hsz4:w2.heap.size≤w4.heap.size:=by rw [hw4];exact hsz
    have hown4:Own w4 w2.heap.size 3 1 X k cx (Qag (Qhx (Qcm l) (N.ar.take j))):=by rw [hw4];exact hown
    clear hw4 hbl hb2r hsz hown HE
    by_cases hpq:p=q
    · have e1:(p != q)=false:=by simpa using hpq
      have e2:(p == q)=true:=by simpa using hpq
      rw [e1] at HNX;clear hpq
      go_wp2_with fail
      go_roundw
      case rel=>exact ⟨hbl4,hsz4,hb24,j+1,X,k,cx,by omega,by go_num,rfl,by omega,by rw [HNX.out];simpa using hown4⟩
      case measure=>simp [intOf];omega
    · have e1:(p != q)=true:=by simpa using hpq
      have e2:(p == q)=false:=by simpa using hpq
      rw [e1] at HNX;clear hpq;have hlt4:Below w4.heap.size w4 (w4.alloc (.cells #[.int .i64 (j:Int)] 3)):=Qah;have hownA:=hown4.below hlt4;have hrA:Rds (w4.alloc (.cells #[.int .i64 (j:Int)] 3)) 1 (some ⟨w4.heap.size,0,none⟩) 1 (Qag [(j:Int)]):=(Blk.new w4 3 (Qcj [(j:Int)])).rds rfl;have hblA:=Zb hbl4 hlt4;have hb2A:=Zb hb24 hlt4
      go_wp2_with (at_builtin;with_reducible refine Qal rfl (.tmp 35) (.tmp 37) 61 rfl 3 _ 1 8 Qbm underlying61 rfl (by omega) rfl rfl hownA hrA (Qao _) (by omega) (by omega) (by simp;omega) ?_)
      intro A' c' w' hown' hg _;have hbl5:Below w.heap.size w w':=Zo hblA hg (hownA.mono (by omega)) (by simp;omega);have hb25:Below w2.heap.size w2 w':=Zo hb2A hg hownA (by simp;omega);have hsz5:w2.heap.size≤w'.heap.size:=hb25.size;have HO:=Zh hown';clear hown' hg hownA hrA hblA hb2A hlt4 hown4 hbl4 hb24 hsz4
      go_wp2
      go_roundw
      case rel=>exact ⟨hbl5,hsz5,hb25,j+1,A',k+1,c',by omega,by go_num,rfl,by omega,by rw [HNX.out,if_pos trivial,Qbj];exact HO.out⟩
      case measure=>simp [intOf];omega
  · obtain rfl:M=j:=by omega
    rw [Ye (by rw [HM.out];exact Zn _)] at hown;have HO:=Zh hown;have hk:k=(Qas N.ar l).length:=by have:=hown.1;rw [Nat.mul_one] at this;rw [←this];simp [Qag,Qas]
    have HK:=Zh hk;clear hown hk
    go_wp2
    go_ret
    exact ⟨X,cx,by rw [←HK.out];rfl,by rw [←HK.out];exact HO.out.rds.rdI,fun b hb=>by have:=HO.out.lt b hb;omega,hbl⟩
end Go.Proofs.YtdheeddnkdhfeaaGreatDoor
