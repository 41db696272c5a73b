/- Parts of the proof: Hv, InA, Dj, InP, InB, Dk, InQ. -/
import Derived.Test.YthoagdpakddbdaaGreatDoorD1
import Derived.Test.YthoagdpakddbdaaGreatDoorD7
namespace Go.Proofs.YthoagdpakddbdaaGreatDoor
open Go.RowKit Go.Proofs.Tryz
attribute [local go_sem ↓] Go.wp_at_zero Go.wp_at_succ
section
variable {G:Nat→Prop} {g gc gs n m c:Nat} {A:Option Addr} {R:List Nat} {C:List Int} {S:List Nat}
theorem Qax.cut {W:World}(h:Qax W G g A gc gs n m c R C S){L:Nat}(hL:L≤m):Qax (W.setCell ⟨g,0,none⟩ (.slice A L c)) G g A gc gs n L c (R.take L) C S:=by
 have h1:Own W 0 3 1 A L c (Qad (nis (R.take L))):=h.row.front_ hL (by simp [Qad,nis,List.map_take]);refine ⟨?_,h1.far (Qaa _ _ _ _) (.inr fun e=>(h.dA g e).1 rfl),h.cs.far_ (fun e=>h.dg.1 e.symm) _,h.ss.far_ (fun e=>h.dg.2.1 e.symm) _,h.dA,h.dg,h.dG,fun b hb=>by simpa [World.setCell] using h.lt b hb,by rw [List.length_take,h.lr];omega,h.lc,h.ls,h.n0⟩;exact h.blk.set_ 0 _
set_option maxHeartbeats 1000000 in
theorem Qtj (w:World)(h:Qax w G g A gc gs n 0 c R C S) :
 Calls prog 136 #[.pointer (some ⟨g,0,none⟩)] w fun e w'=>e=.returned (.tuple #[.int .i64 0,.int .i64 0,.bool false])∧w=w':=by
 have f0:=h.f0;clear h
 go_enter func136,ntmps136
 go_wp2_with fail
 refine bodyPost_ret (v:=.tuple #[.int .i64 0,.int .i64 0,.bool false]) (by simp [results,results136,go_sem]) rfl ?_;exact ⟨rfl,rfl⟩
set_option maxHeartbeats 2000000 in
theorem Qts (w:World)(L:Nat) (h:Qax w G g A gc gs n (L+1) c R C S) (hp:HpS n R C S) (ho:Ord (at_ R C) (L+1)) (k:Nat) (hk:R[0]?=some k) (x:Int) (hx:C[k]?=some x) :
 Calls prog 136 #[.pointer (some ⟨g,0,none⟩)] w fun e w'=>e=.returned (.tuple #[.int .i64 k,.int .i64 x,.bool true])∧(∃ (R' S':List Nat),Qax w' G g A gc gs n L c R' C S'∧HpS n R' C S'∧Ord (at_ R' C) L∧∀ q,q∈R'↔q∈R∧q≠k)∧Aft G w w':=by
 obtain ⟨gr,hgr,hfr⟩:=h.rowBlk (by omega);subst hgr;have hlr:=h.lr;have hcap:=h.cap;have hn0:=h.n0;have hkn:k<n:=(hp.seat 0 k hk).1
 obtain ⟨b,y,la,lb,lc,ld⟩:=hp.key (i:=L) (by omega);have f0:=h.f0;have r0:=h.rowAt hk;have HSW:=Zh (fun V (hV:Qax V G g (some ⟨gr,0,none⟩) gc gs n (L+1) c R C S)=>(show Calls prog 161 #[.pointer (some ⟨g,0,none⟩),.int .i64 0,.int .i64 L] V _ from Qjj V hV hk la hkn lb))
 have HPP:=Zh (hp.pop hlr hk);have HPO:=Zh (hp.popOrd ho hlr hk);have HH:=Zh h.drew;have i1:((L:Int)+1 == 0)=false:=by simp;omega
 have e1:IntKind.i64.wrap ((L:Int)+1-1)=(L:Int):=by rw [show (L:Int)+1-1=(L:Int) by omega];exact IntWalk.i64_in _ (by omega)
 have hle:=hp.le;clear h hp ho la lc ld
 go_enter func136,ntmps136
 go_wp2_with fail
 refine wp_region_held_drew (S:=fun V=>V.cell? ⟨g,0,none⟩=some (.slice (some ⟨gr,0,none⟩) (L+1) c)∧V.cell? ⟨gr,0,none⟩=some (.int .i64 k)) (by kernel_rfl) ⟨f0,r0⟩ (fun _=>?_);refine tz 0 13 ?_;refine tz 1 14 ?_;refine tz 2 15 ?_;refine tz 3 16 ?_;refine tz 4 17 ?_;refine tz 5 18 ?_;refine tz 6 19 ?_;refine tz 7 20 ?_;refine tz 8 21 ?_;refine tz 9 22 ?_;refine tz 10 23 ?_;refine tz 11 24 ?_;refine tz 12 5 ?_;refine tz 13 6 ?_;refine Zd ?_;clear f0 r0
 go_wp2_with fail
 with_reducible refine (HSW.out _ HH.out).mono ?_
 rintro e w1 ⟨rfl,hw1,ha1⟩;have ha:Aft G w w1:=⟨ha1.kept,ha1.size,fun B hB=>(Zr B w).drew.trans (ha1.bel B hB)⟩;have f0:=hw1.f0;have z0:w1.frozen? ⟨g,0,none⟩=false:=hw1.blk.frozen 0;have hw2:=hw1.cut (L:=L) (by omega);have f2:=hw2.f2;have s2:=hw2.seatAt (i:=k) (Qbe 0 (by rw [hw2.ls];exact hkn));have z2:w1.frozen? ⟨gs,k,none⟩=false:=hw1.ss.frozen k;have hw3:Qax ((w1.setCell ⟨g,0,none⟩ (.slice (some ⟨gr,0,none⟩) L c)).setCell ⟨gs,k,none⟩ (.int .i64 0)) G g (some ⟨gr,0,none⟩) gc gs n L c _ C _:=hw2.setS (i:=k) (k:=0);have HDN:=Zh (Qwz _ hw3 HPP.out.1 HPO.out);have HA3:=Zh ((ha.set hw1.dG.1 (i:=0) (.slice (some ⟨gr,0,none⟩) L c)).set hw1.dG.2.2 (i:=k) (.int .i64 0));have i2:(0:Int)≤(k:Int):=by omega
 have i3:(k:Int)<(n:Int):=by omega
 have i4:(L:Int)≤(c:Int):=by omega
 clear hw1 hw2 hw3 ha ha1 HSW HH
 go_wp2_with fail
 with_reducible refine HDN.out.mono ?_
 rintro e w3 ⟨rfl,R',S',hw3,hp3,ho3,hk3,ha3⟩;have f1:=hw3.f1;have q1:=hw3.costAt hx;have HW4:=Zh hw3.drew;have HA4:=Zh (HA3.out.trans ha3).drew;have HP4:=Zh hp3;have HO4:=Zh ho3;have HK4:=Zh hk3;clear hw3 ha3 hp3 ho3 hk3 HDN HA3 f0 z0 f2 s2 z2
 go_wp2_with fail
 refine wp_region_held_drew (S:=fun V=>V.cell? ⟨g,1,none⟩=some (.slice (some ⟨gc,0,none⟩) n n)∧V.cell? ⟨gc,k,none⟩=some (.int .i64 x)) (by kernel_rfl) ⟨f1,q1⟩ (fun _=>?_);refine tz 0 45 ?_;refine tz 1 46 ?_;refine tz 2 47 ?_;refine tz 3 48 ?_;refine tz 4 49 ?_;refine tz 5 50 ?_;refine tz 6 51 ?_;refine tz 7 52 ?_;refine tz 8 2 ?_;refine tz 9 3 ?_;refine tz 10 4 ?_;refine Zd ?_
 go_wp2_with fail
 refine bodyPost_ret (v:=.tuple #[.int .i64 k,.int .i64 x,.bool true]) (by simp [results,results136,go_sem]) rfl ?_;exact ⟨rfl,⟨R',S',HW4.out,HP4.out,HO4.out,fun q=>(HK4.out q).trans (HPP.out.2.1 q)⟩,HA4.out⟩
theorem hpPop_ok (w:World)(hp:Nat→Option Int)(h:Qdk w G g n hp) :
 Calls prog 136 #[.pointer (some ⟨g,0,none⟩)] w fun e w' =>
  (((∀ q,hp q=none)∧e=.returned (.tuple #[.int .i64 0,.int .i64 0,.bool false])∧Qdk w' G g n hp) ∨
   ∃ k x,k<n∧hp k=some x∧(∀ q z,hp q=some z→x≤z)∧e=.returned (.tuple #[.int .i64 (k:Nat),.int .i64 x,.bool true])∧Qdk w' G g n (fun q=>if q=k then none else hp q))∧Aft G w w':=by
 obtain ⟨A,gc,gs,m,c,R,C,S,hw,hs,ho,hin⟩:=h;have hlr:=hw.lr
 rcases m with _|L
 · refine (Qtj w hw).mono ?_
   rintro e w' ⟨rfl,rfl⟩;obtain rfl:=List.eq_nil_of_length_eq_zero hlr;exact ⟨.inl ⟨fun q=>by rw [hin q];simp [Qrf],rfl,A,gc,gs,0,c,[],C,S,hw,hs,ho,hin⟩,Aft.refl _ _⟩
 · obtain ⟨k,x,hk,hkn,hx,_⟩:=hs.key (i:=0) (by omega)
   refine (Qts w L hw hs ho k hk x hx).mono ?_;rintro e w' ⟨rfl,⟨R',S',k1,k2,k3,k4⟩,ha⟩;have hm:k∈R:=List.mem_iff_getElem?.2 ⟨0,hk⟩;refine ⟨.inr ⟨k,x,hkn,by rw [hin k];unfold Qrf;rw [if_pos hm];exact hx,fun q z hq=>Qsz hs (by rw [hlr];exact ho) hk hx ((hin q).symm.trans hq),rfl,A,gc,gs,L,c,R',C,S',k1,k2,k3,fun q=>?_⟩,ha⟩
   show (if q=k then none else hp q)=_
   unfold Qrf
   by_cases e:q=k
   · rw [if_pos e,if_neg (fun h=>((k4 q).1 h).2 e)]
   · rw [if_neg e,hin q]
     unfold Qrf
     by_cases hq:q∈R
     · rw [if_pos hq,if_pos ((k4 q).2 ⟨hq,e⟩)]
     · rw [if_neg hq,if_neg (fun h=>hq ((k4 q).1 h).1)]
set_option maxHeartbeats 1000000 in
theorem Qtc (w:World)(hp:Nat→Option Int)(h:Qdk w G g n hp) :
 Calls prog 134 #[.pointer (some ⟨g,0,none⟩)] w fun e w'=>e=.returned (.tuple #[])∧Qdk w' G g n (fun _=>none)∧Aft G w w':=by
 obtain ⟨A,gc,gs,m,c,R,C,S,hw,hs,ho,hin⟩:=h;have hlr:=hw.lr;have hcap:=hw.cap;have hn0:=hw.n0;have hle:=hs.le;have f0:=hw.f0;have HH:=Zh hw;have HS:=Zh hs
 have HNO:=Zh (show ∀ q s,S[q]?=some s→q ∉ R→s=0 from fun q s h1 h2=>by
  rcases s with _|s
  · rfl
  · exact absurd (List.mem_iff_getElem?.2 ⟨s,hs.none_ q s h1⟩) h2)
 clear hw hs ho hin
 go_enter func134,ntmps134
 go_wp2_with fail
 go_loopw [9] (fun x W=>∃ (i:Nat) (S':List Nat),x=.int .i64 i∧i≤m∧Qax W G g A gc gs n m c R C S'∧(∀ q s,S'[q]?=some s→s=0∨(S[q]?=some s∧q ∉ R.take i))∧Aft G w W) (fun x _=>m-(intOf x).toNat)
 case atStart=>exact ⟨0,S,by go_num,by omega,HH.out,fun q s h1=>.inr ⟨h1,by simp⟩,Aft.refl _ _⟩
 case round =>
  obtain ⟨i,S',rfl,him,hw,hz,ha⟩:=hrel
  by_cases hlt:i<m
  · obtain ⟨gr,hgr,hfr⟩:=hw.rowBlk (by omega)
    subst hgr;obtain ⟨k,hk⟩:∃ k,R[i]?=some k:=⟨_,Qbe 0 (by omega)⟩;have hkn:=(HS.out.seat i k hk).1;have r0:=hw.rowAt hk;have f2:=hw.f2;have s0:=hw.seatAt (i:=k) (Qbe 0 (by rw [hw.ls];exact hkn));have z0:wr.frozen? ⟨gs,k,none⟩=false:=hw.ss.frozen k;have hw2:Qax (wr.setCell ⟨gs,k,none⟩ (.int .i64 0)) G g (some ⟨gr,0,none⟩) gc gs n m c R C (S'.set k 0):=hw.setS (i:=k) (k:=0);have HW2:=Zh hw2;have HA2:=Zh (ha.set hw.dG.2.2 (i:=k) (.int .i64 0));have HZ:=Zh hz;have i1:(0:Int)≤(i:Int):=by omega
    have i2:(i:Int)<(m:Int):=by omega
    have i3:(0:Int)≤(k:Int):=by omega
    have i4:(k:Int)<(n:Int):=by omega
    have hls:=hw.ls;clear hw hz ha hw2
    go_wp2_with fail
    go_roundw
    case rel =>
     refine ⟨i+1,S'.set k 0,by go_num,by omega,HW2.out,fun q s h1=>?_,HA2.out⟩
     by_cases e:k=q
     · subst e
       rw [List.getElem?_set_self (by omega)] at h1;exact .inl (Option.some.inj h1).symm
     · rw [List.getElem?_set_ne e] at h1
       rcases HZ.out q s h1 with h2|⟨h2,h3⟩
       · exact .inl h2
       · refine .inr ⟨h2,fun h4=>?_⟩
         rw [List.take_add_one,hk] at h4;simp only [Option.toList_some,List.mem_append,List.mem_singleton] at h4;exact h4.elim h3 (fun e2=>e e2.symm)
    case measure=>simp [intOf];omega
  · obtain rfl:i=m:=by omega
    have f0:=hw.f0;have z0:wr.frozen? ⟨g,0,none⟩=false:=hw.blk.frozen 0;have hw2:=hw.cut (L:=0) (by omega);have HW2:=Zh hw2;have HA2:=Zh (ha.set hw.dG.1 (i:=0) (.slice A 0 c));have HZ:=Zh hz;clear hw hz ha hw2
    go_wp2_with fail
    go_end0
    refine ⟨rfl,⟨A,gc,gs,0,c,[],C,S',HW2.out,⟨HW2.out.lc,HW2.out.ls,fun q k h1=>by simp at h1,fun k q h1=>?_⟩,fun q _ h1=>by omega,fun q=>by simp [Qrf]⟩,HA2.out⟩
    rcases HZ.out k _ h1 with h2|⟨h2,h3⟩
    · omega
    · rw [List.take_of_length_le (by omega)] at h3
      exact absurd (HNO.out k _ h2 h3) (by omega)
theorem Qgc (n:Nat)(hn:n≤1000000000)(W:World):(Instr.makeSlice 30 (.int .i64 (n:Int)) (.int .i64 (n:Int))).run prog W=.ok (.slice (some ⟨W.heap.size,0,none⟩) n n) (W.alloc (.cells (Qbc (.int .i64 0) n) 2)) :=
 Qec (P:=prog) 30 2 (.int .i64 0) 8 Qkg underlying30 rfl n (by omega) (by omega) .i64 .i64 W
theorem nis_zero (n:Nat):nis (List.replicate n 0)=List.replicate n 0:=by simp [nis]
theorem Qdk.made {W w:World}{n g gc gs:Nat} (hb:Blk W g 269 #[.slice none 0 0,.slice (some ⟨gc,0,none⟩) n n,.slice (some ⟨gs,0,none⟩) n n]) (hc:Blk W gc 2 (Qbc (.int .i64 0) n)) (hs:Blk W gs 3 (Qbc (.int .i64 0) n))
 (h1:g≠gc∧g≠gs∧gc≠gs) (h2:w.heap.size≤g∧w.heap.size≤gc∧w.heap.size≤gs) (hz:w.heap.size≤W.heap.size) (hn:n≤16384):Qdk W (fun b=>b<w.heap.size) g n (fun _=>none):=by
 refine ⟨none,gc,gs,0,0,[],List.replicate n 0,List.replicate n 0,⟨hb,Own.nil _ _ _ _,by rw [←Qdv];exact hc,by rw [nis_zero,←Qdv];exact hs,fun b e=>by simp [Qab] at e,h1,⟨by omega,by omega,by omega⟩,fun b hb=>by omega,rfl,by simp,by simp,hn⟩,⟨by simp,by simp,fun i k h=>by simp at h,fun k i h=>?_⟩,fun i _ h=>by omega,fun k=>by simp [Qrf]⟩;have:=(Zs h).2;simp at this
set_option maxHeartbeats 1000000 in
theorem hpNew_ok (w:World)(n:Nat)(hn:n≤16384) :
 Calls prog 133 #[.int .i64 n] w fun e w'=>∃ g,e=.returned (.pointer (some ⟨g,0,none⟩))∧Qdk w' (fun b=>b<w.heap.size) g n (fun _=>none)∧Below w.heap.size w w':=by
 have hmk:=Qea n (by omega);have hmc:=Qgc n (by omega);have e1:max (n:Int) 0=(n:Int):=by omega
 have e2:min (n:Int) 16384=(n:Int):=by omega
 go_enter func133,ntmps133
 go_wp2_with fail
 refine wp_region_held_drew (S:=fun V=>Below w.heap.size w V) (by kernel_rfl) (Zr _ _).drew (fun _=>?_);refine tz 0 6 ?_;refine tz 2 8 ?_;refine wpAnyH_ready (rs:=[1,3]) (by kernel_rfl) (by simp) ?_;refine AllReadyH.cons (o:=_) rfl (fun K hK=>?_) (AllReadyH.cons (o:=_) rfl (fun K hK=>?_) AllReadyH.nil)
 · go_simp
   refine hK.out _ _ Qae (fun _=>?_);clear hK K;refine Zk 3 (fun K hK=>?_);go_simp;refine hK.out _ _ Qae (fun _=>?_);clear hK K;refine tz 4 10 ?_;refine Zk 5 (fun K hK=>?_);go_simp;refine hK.out _ _ Qae (fun _=>?_);clear hK K;refine tz 6 2 ?_;refine Zd ?_
   go_wp2_with fail
   go_ret
   refine ⟨_,rfl,Qdk.made (gc:=w.heap.size) (gs:=w.heap.size+1) Qay Qay Qay ?_ ?_ ?_ hn,Qae⟩
   all_goals (simp;try omega)
 · go_simp
   refine hK.out _ _ Qae (fun _=>?_);clear hK K;refine Zk 1 (fun K hK=>?_);go_simp;refine hK.out _ _ Qae (fun _=>?_);clear hK K;refine tz 4 10 ?_;refine Zk 5 (fun K hK=>?_);go_simp;refine hK.out _ _ Qae (fun _=>?_);clear hK K;refine tz 6 2 ?_;refine Zd ?_
   go_wp2_with fail
   go_ret
   refine ⟨_,rfl,Qdk.made (gs:=w.heap.size) (gc:=w.heap.size+1) Qay Qay Qay ?_ ?_ ?_ hn,Qae⟩
   all_goals (simp;try omega)
end
theorem Qdk.more {W W':World}{G G':Nat→Prop}{g n:Nat}{hp:Nat→Option Int}(h:Qdk W G g n hp)(hb:Below W.heap.size W W') (hG:∀ b,G' b→b<W'.heap.size∧(G b∨W.heap.size≤b)):Qdk W' G' g n hp:=by
 obtain ⟨A,gc,gs,m,c,R,C,S,h1,h2⟩:=h;exact ⟨A,gc,gs,m,c,R,C,S,h1.more hb hG,h2⟩
theorem Qdk.less {W:World}{G G':Nat→Prop}{g n:Nat}{hp:Nat→Option Int}(h:Qdk W G g n hp)(hG:∀ b,G' b→G b):Qdk W G' g n hp:=by
 obtain ⟨A,gc,gs,m,c,R,C,S,h1,h2⟩:=h;exact ⟨A,gc,gs,m,c,R,C,S,h1.more (Zr _ _) (fun b hb=>⟨h1.lt b (hG b hb),.inl (hG b hb)⟩),h2⟩
theorem Qdk.lt {W:World}{G:Nat→Prop}{g n:Nat}{hp:Nat→Option Int}(h:Qdk W G g n hp):∀ b,G b→b<W.heap.size:=by
 obtain ⟨A,gc,gs,m,c,R,C,S,h1,h2⟩:=h;exact h1.lt
theorem Qdk.set {W:World}{G:Nat→Prop}{g n k i:Nat}{hp:Nat→Option Int}(h:Qdk W G g n hp)(hk:G k)(v:Value):Qdk (W.setCell ⟨k,i,none⟩ v) G g n hp:=by
 obtain ⟨A,gc,gs,m,c,R,C,S,h1,h2⟩:=h;have hn:∀ b,¬G b→b≠k:=fun b hb e=>hb (e▸hk)
 exact ⟨A,gc,gs,m,c,R,C,S,⟨h1.blk.far_ (hn _ h1.dG.1) _,h1.row.far (Qaa _ _ _ _) (.inr fun e=>(h1.dA k e).2.2.2 hk),h1.cs.far_ (hn _ h1.dG.2.1) _,h1.ss.far_ (hn _ h1.dG.2.2) _,h1.dA,h1.dg,h1.dG,fun b hb=>by simpa [World.setCell] using h1.lt b hb,h1.lr,h1.lc,h1.ls,h1.n0⟩,h2⟩
theorem Le.kept {K:Nat→Prop}{W0 W:World}(h:Qaz K W0 W):Le (msk W0 K) W:=(Qaz.msk h).trans (Qbn _ _)
theorem Aft.mono {G G':Nat→Prop}{a b:World}(h:Aft G a b)(hs:∀ b,G' b→G b):Aft G' a b:=⟨h.kept.mono hs,h.size,fun B hB=>h.bel B (fun b hb=>hs b (hB b hb))⟩
theorem nis_idx (f:Tri→Int)(l:List Tri)(v:Int):∃ bs:List Nat,nis bs=idx f l v∧∀ b∈bs,∃ y,l[b]?=some y∧f y=v:=by
 refine ⟨(idx f l v).map Int.toNat,?_,fun b hb=>?_⟩
 · unfold nis
   rw [List.map_map];refine (List.map_congr_left (g:=id) fun z hz=>?_).trans (List.map_id _);obtain ⟨i,a,rfl,_⟩:=Qrj.1 hz;simp
 · obtain ⟨z,hz,rfl⟩:=List.mem_map.1 hb
   obtain ⟨i,a,rfl,h1,h2⟩:=Qrj.1 hz;exact ⟨a,by simpa using h1,h2⟩
end Go.Proofs.YthoagdpakddbdaaGreatDoor
namespace Go.Proofs.YthoagdpakddbdaaGreatDoor
/-! Least costs over steps; plain. -/
abbrev Qbq:=Nat→Nat→Int→Prop
inductive Rch (St:Qbq) (s:Nat):Nat→Int→Prop
 | start:Rch St s s 0
 | step {p q:Nat} {c d:Int}:Rch St s p c→St p q d→Rch St s q (c+d)
theorem Rch.pos {St:Qbq}(h0:∀ p q d,St p q d→0≤d){s p:Nat}{c:Int}(h:Rch St s p c):0≤c:=by
 induction h with
 | start=>exact Int.le_refl _
 | step _ h2 ih=>have:=h0 _ _ _ h2;omega
theorem Rch.trans {St:Qbq}{s p q:Nat}{c d:Int}(h:Rch St s p c)(g:Rch St p q d):Rch St s q (c+d):=by
 induction g with
 | start=>simpa using h
 | step _ h2 ih=>rw [←Int.add_assoc];exact ih.step h2
theorem Rch.mono {St St':Qbq}(hm:∀ p q d,St p q d→St' p q d){s p:Nat}{c:Int}(h:Rch St s p c):Rch St' s p c:=by
 induction h with
 | start=>exact .start
 | step _ h2 ih=>exact ih.step (hm _ _ _ h2)
def Quf (St Out:Qbq)(s k:Nat)(v:Int):Prop:=∃ p c d,Rch St s p c∧Out p k d∧v=c+d
def INF:Int:=1152921504606846976
def Lst (P:Int→Prop)(v:Int):Prop:=(P v∧∀ c,P c→v≤c)∨(v=INF∧∀ c,¬P c)
theorem Lst.uniq {P:Int→Prop}{a b:Int}(h:Lst P a)(g:Lst P b):a=b:=by
 rcases h with ⟨h1,h2⟩|⟨h1,h2⟩ <;> rcases g with ⟨g1,g2⟩|⟨g1,g2⟩
 · have:=h2 _ g1;have:=g2 _ h1;omega
 · exact absurd h1 (g2 _)
 · exact absurd g1 (h2 _)
 · rw [h1,g1]
theorem Lst.conv {P Q:Int→Prop}{v:Int}(h:Lst P v)(h1:∀ c,P c→∃ d,Q d∧d≤c)(h2:∀ c,Q c→∃ d,P d∧d≤c):Lst Q v:=by
 rcases h with ⟨hv,hm⟩|⟨hv,hn⟩
 · left
   obtain ⟨d,hd,hle⟩:=h1 v hv;obtain ⟨e,he,hle2⟩:=h2 d hd;have h3:=hm e he;have:d=v:=by omega
   subst this;refine ⟨hd,fun c hc=>?_⟩;obtain ⟨e,he,hle⟩:=h2 c hc;have:=hm e he;omega
 · right
   refine ⟨hv,fun c hc=>?_⟩;obtain ⟨e,he,_⟩:=h2 c hc;exact hn e he
/-! Cells within cells: K p: the kid in which one stands behind p; In: the steps within a kid. -/
structure Qjn (St Out:Qbq) (SK:Qbq) (E:Nat→Nat→Int→Prop) (CSt COut:Qbq) (ins:Nat→Prop) (W:Nat→Int) (T:Nat→Nat→Int→Prop):Prop where
 /-- a step within a kid is a step; what is no such step goes out of the kid, by an arc that is an entry's end -/
 sub:∀ p q d,SK p q d→St p q d
 split:∀ p q d,St p q d→SK p q d∨(ins q∧∃ t,T p q t∧d=t+W q∧0≤W q)
 join:∀ a p q c t,ins a→Rch SK a p c→T p q t→(∃ d,St p q d∧¬SK p q d)→St p q (t+W q)
 /-- coarse steps -/
 cst:∀ a q d,CSt a q d→ins a∧ins q∧∃ v,E a q v∧d=v+W q∧(∃ p c t,Rch SK a p c∧T p q t∧v=c+t∧St p q (t+W q))
 cst2:∀ a p q c t,ins a→Rch SK a p c→T p q t→ins q→St p q (t+W q)→¬SK p q (t+W q)→∃ d,CSt a q d∧d≤c+t+W q
 cout:∀ a k d,COut a k d→∃ p c t,Rch SK a p c∧Out p k t∧d=c+t
 cout2:∀ a p k c t,ins a→Rch SK a p c→Out p k t→∃ d,COut a k d∧d≤c+t
theorem Qjn.up {St Out SK:Qbq}{E:Nat→Nat→Int→Prop}{CSt COut:Qbq}{ins:Nat→Prop}{W:Nat→Int}{T:Nat→Nat→Int→Prop}(h:Qjn St Out SK E CSt COut ins W T)
 {s q:Nat} {c:Int} (hr:Rch CSt s q c):Rch St s q c:=by
 induction hr with
 | start=>exact .start
 | step h1 h2 ih =>
  obtain ⟨_,_,v,_,rfl,p,c',t,h3,h4,rfl,h5⟩:=h.cst _ _ _ h2;have:=(ih.trans (h3.mono h.sub)).step h5;rw [show ∀ a b c d:Int,a+b+(c+d)=a+(b+c+d) from fun a b c d=>by omega] at this
  exact this
theorem Qjn.down {St Out SK:Qbq}{E:Nat→Nat→Int→Prop}{CSt COut:Qbq}{ins:Nat→Prop}{W:Nat→Int}{T:Nat→Nat→Int→Prop}(h:Qjn St Out SK E CSt COut ins W T)
 (hsk:∀ p q d,St p q d→SK p q d∨¬SK p q d) {s q:Nat} {c:Int} (hs:ins s) (hr:Rch St s q c):∃ a c1 c2,ins a∧Rch CSt s a c1∧Rch SK a q c2∧c1+c2≤c:=by
 induction hr with
 | start=>exact ⟨s,0,0,hs,.start,.start,by omega⟩
 | @step p q c d h1 h2 ih =>
  obtain ⟨a,c1,c2,ha,g1,g2,g3⟩:=ih
  rcases hsk _ _ _ h2 with hk|hk
  · exact ⟨a,c1,c2+d,ha,g1,g2.step hk,by omega⟩
  · rcases h.split _ _ _ h2 with hk'|⟨hq,t,ht,rfl,hw⟩
    · exact absurd hk' hk
    · obtain ⟨e,he,hle⟩:=h.cst2 a p q c2 t ha g2 ht hq h2 hk
      exact ⟨q,c1+e,0,hq,g1.step he,.start,by omega⟩
theorem Qjn.same {St Out SK:Qbq}{E:Nat→Nat→Int→Prop}{CSt COut:Qbq}{ins:Nat→Prop}{W:Nat→Int}{T:Nat→Nat→Int→Prop}(h:Qjn St Out SK E CSt COut ins W T)
 (hsk:∀ p q d,St p q d→SK p q d∨¬SK p q d) {s k:Nat} {v:Int} (hs:ins s) (hl:Lst (Quf CSt COut s k) v):Lst (Quf St Out s k) v:=by
 refine hl.conv (fun c hc=>?_) (fun c hc=>?_)
 · obtain ⟨a,c1,d,h1,h2,rfl⟩:=hc
   obtain ⟨p,c2,t,h3,h4,rfl⟩:=h.cout _ _ _ h2;exact ⟨_,⟨p,c1+c2,t,(h.up h1).trans (h3.mono h.sub),h4,rfl⟩,by omega⟩
 · obtain ⟨p,c1,t,h1,h2,rfl⟩:=hc
   obtain ⟨a,e1,e2,ha,g1,g2,g3⟩:=h.down hsk hs h1;obtain ⟨d,hd,hle⟩:=h.cout2 a p k e2 t ha g2 h2;exact ⟨_,⟨a,e1,d,g1,hd,rfl⟩,by omega⟩
/-! The least first. -/
structure Dij (St:Qbq) (s:Nat) (dn:Nat→Option Int) (hp:Nat→Option Int):Prop where
 dr:∀ p c,dn p=some c→Rch St s p c
 dm:∀ p c,dn p=some c→∀ e,Rch St s p e→c≤e
 hr:∀ p c,hp p=some c→Rch St s p c
 off:∀ p c,dn p=some c→hp p=none
 on:∀ p c q d,dn p=some c→St p q d→(∃ e,dn q=some e∧e≤c+d)∨(∃ e,hp q=some e∧e≤c+d)
 st:dn s≠none∨∃ e,hp s=some e∧e≤0
theorem Dij.wait {St:Qbq}{s:Nat}{dn hp:Nat→Option Int}(h:Dij St s dn hp)(h0:∀ p q d,St p q d→0≤d){p:Nat}{c:Int}(hr:Rch St s p c):(∃ e,dn p=some e∧e≤c)∨∃ q e,hp q=some e∧e≤c:=by
 induction hr with
 | start =>
  rcases h.st with h1|⟨e,h1,h2⟩
  · left
    cases hd:dn s with
    | none=>exact absurd hd h1
    | some e=>exact ⟨e,rfl,h.dm s e hd 0 .start⟩
  · exact .inr ⟨s,e,h1,h2⟩
 | @step p q c d h1 h2 ih =>
  have hd:=h0 _ _ _ h2
  rcases ih with ⟨e,h3,h4⟩|⟨r,e,h3,h4⟩
  · rcases h.on p e q d h3 h2 with ⟨f,h5,h6⟩|⟨f,h5,h6⟩
    · exact .inl ⟨f,h5,by omega⟩
    · exact .inr ⟨q,f,h5,by omega⟩
  · exact .inr ⟨r,e,h3,by omega⟩
theorem Dij.least {St:Qbq}{s:Nat}{dn hp:Nat→Option Int}(h:Dij St s dn hp)(h0:∀ p q d,St p q d→0≤d){p:Nat}{c:Int}(hp1:hp p=some c)(hm:∀ q e,hp q=some e→c≤e):∀ e,Rch St s p e→c≤e:=by
 intro e hr
 rcases h.wait h0 hr with ⟨f,h1,_⟩|⟨q,f,h1,h2⟩
 · have:=h.off p f h1
   rw [hp1] at this
   cases this
 · have:=hm q f h1
   omega
theorem Dij.all {St:Qbq}{s:Nat}{dn hp:Nat→Option Int}(h:Dij St s dn hp)(h0:∀ p q d,St p q d→0≤d)(he:∀ q,hp q=none){p:Nat}{c:Int}(hr:Rch St s p c):∃ e,dn p=some e∧e≤c:=by
 rcases h.wait h0 hr with h1|⟨q,e,h1,_⟩
 · exact h1
 · rw [he q] at h1;cases h1
structure Qux (St:Qbq) (s:Nat) (dn hp:Nat→Option Int) (p:Nat) (c:Int) (Gone:Nat→Int→Prop):Prop where
 dr:∀ q e,dn q=some e→Rch St s q e
 dm:∀ q e,dn q=some e→∀ f,Rch St s q f→e≤f
 hr:∀ q e,hp q=some e→Rch St s q e
 off:∀ q e,dn q=some e→hp q=none
 on:∀ q e r d,dn q=some e→St q r d→(q=p∧¬Gone r d)∨(∃ f,dn r=some f∧f≤e+d)∨(∃ f,hp r=some f∧f≤e+d)
 st:dn s≠none∨∃ e,hp s=some e∧e≤0
 at_:dn p=some c
theorem Dij.take {St:Qbq}{s:Nat}{dn hp:Nat→Option Int}(h:Dij St s dn hp)(h0:∀ p q d,St p q d→0≤d){p:Nat}{c:Int}(hp1:hp p=some c)(hm:∀ q e,hp q=some e→c≤e) :
 Qux St s (fun q=>if q=p then some c else dn q) (fun q=>if q=p then none else hp q) p c (fun _ _=>False) where
 dr:=fun q e he=>by
  by_cases hq:q=p
  · subst hq;simp at he;subst he;exact h.hr q c hp1
  · simp [hq] at he;exact h.dr q e he
 dm:=fun q e he f hf=>by
  by_cases hq:q=p
  · subst hq;simp at he;subst he;exact h.least h0 hp1 hm f hf
  · simp [hq] at he;exact h.dm q e he f hf
 hr:=fun q e he=>by
  by_cases hq:q=p
  · simp [hq] at he
  · simp [hq] at he;exact h.hr q e he
 off:=fun q e he=>by
  by_cases hq:q=p
  · simp [hq]
  · simp [hq] at he ⊢;exact h.off q e he
 on:=fun q e r d he hs=>by
  by_cases hq:q=p
  · exact .inl ⟨hq,fun h=>h⟩
  · simp [hq] at he
    right
    rcases h.on q e r d he hs with ⟨f,h1,h2⟩|⟨f,h1,h2⟩
    · by_cases hr:r=p
      · subst hr
        have:=h.off r f h1;rw [hp1] at this
        cases this
      · exact .inl ⟨f,by simp [hr,h1],h2⟩
    · by_cases hr:r=p
      · subst hr
        rw [hp1] at h1
        cases h1
        exact .inl ⟨c,by simp,h2⟩
      · exact .inr ⟨f,by simp [hr,h1],h2⟩
 st:=by
  by_cases hs:s=p
  · left;simp [hs]
  · rcases h.st with h1|⟨e,h1,h2⟩
    · left;simpa [hs] using h1
    · right;exact ⟨e,by simp [hs,h1],h2⟩
 at_:=by simp
theorem Qux.put {St:Qbq}{s:Nat}{dn hp hp':Nat→Option Int}{p q:Nat}{c d:Int}{Gone:Nat→Int→Prop}(h:Qux St s dn hp p c Gone)(hs:St p q d)
 (hput:(dn q≠none∧(∀ e,dn q=some e→e≤c+d)∧hp'=hp)∨(dn q=none∧(∀ r,r≠q→hp' r=hp r)∧((∃ e,hp q=some e∧e≤c+d∧hp' q=some e)∨((∀ e,hp q=some e→c+d≤e)∧hp' q=some (c+d))))) :
 Qux St s dn hp' p c (fun r e=>Gone r e∨(r=q∧e=d)) where
 dr:=h.dr
 dm:=h.dm
 hr:=fun r e he=>by
  rcases hput with ⟨_,_,rfl⟩|⟨_,h2,h3⟩
  · exact h.hr r e he
  · by_cases hr:r=q
    · subst hr
      rcases h3 with ⟨f,h4,_,h5⟩|⟨_,h5⟩
      · rw [h5] at he;cases he;exact h.hr r _ h4
      · rw [h5] at he;cases he;exact (h.dr p c h.at_).step hs
    · rw [h2 r hr] at he;exact h.hr r e he
 off:=fun r e he=>by
  rcases hput with ⟨_,_,rfl⟩|⟨h1,h2,_⟩
  · exact h.off r e he
  · by_cases hr:r=q
    · subst hr;rw [h1] at he;cases he
    · rw [h2 r hr];exact h.off r e he
 on:=fun r e t f he hst=>by
  have key:∀ g,(∃ x,hp t=some x∧x≤g)→∃ x,hp' t=some x∧x≤g:=fun g ⟨x,h1,h2⟩=>by
   rcases hput with ⟨_,_,rfl⟩|⟨_,h4,h5⟩
   · exact ⟨x,h1,h2⟩
   · by_cases ht:t=q
     · subst ht
       rcases h5 with ⟨y,h6,_,h7⟩|⟨h6,h7⟩
       · rw [h1] at h6;cases h6;exact ⟨x,h7,h2⟩
       · exact ⟨c+d,h7,by have:=h6 x h1;omega⟩
     · exact ⟨x,by rw [h4 t ht];exact h1,h2⟩
  rcases h.on r e t f he hst with ⟨h1,h2⟩|h1|h1
  · by_cases hg:t=q∧f=d
    · obtain ⟨rfl,rfl⟩:=hg
      subst h1;rw [h.at_] at he
      cases he
      right
      rcases hput with ⟨h3,h4,rfl⟩|⟨h3,h4,h5⟩
      · left
        cases hd:dn t with
        | none=>exact absurd hd h3
        | some x=>exact ⟨x,rfl,h4 x hd⟩
      · right
        rcases h5 with ⟨y,h6,h7,h8⟩|⟨_,h8⟩
        · exact ⟨y,h8,h7⟩
        · exact ⟨_,h8,Int.le_refl _⟩
    · exact .inl ⟨h1,fun hx=>hx.elim h2 hg⟩
  · exact .inr (.inl h1)
  · exact .inr (.inr (key _ h1))
 st:=by
  rcases h.st with h1|⟨e,h1,h2⟩
  · exact .inl h1
  · right
    rcases hput with ⟨_,_,rfl⟩|⟨_,h4,h5⟩
    · exact ⟨e,h1,h2⟩
    · by_cases ht:s=q
      · subst ht
        rcases h5 with ⟨y,h6,_,h7⟩|⟨h6,h7⟩
        · rw [h1] at h6;cases h6;exact ⟨e,h7,h2⟩
        · exact ⟨c+d,h7,by have:=h6 e h1;omega⟩
      · exact ⟨e,by rw [h4 s ht];exact h1,h2⟩
 at_:=h.at_
theorem Qux.done {St:Qbq}{s:Nat}{dn hp:Nat→Option Int}{p:Nat}{c:Int}{Gone:Nat→Int→Prop}(h:Qux St s dn hp p c Gone)(hg:∀ q d,St p q d→Gone q d):Dij St s dn hp :=
 ⟨h.dr,h.dm,h.hr,h.off,fun q e r d h1 h2=>by
  rcases h.on q e r d h1 h2 with ⟨h3,h4⟩|h3|h3
  · subst h3;exact absurd (hg r d h2) h4
  · exact .inl h3
  · exact .inr h3,h.st⟩
structure OutB (Out:Qbq) (dn:Nat→Option Int) (k:Nat) (b:Int) (Extra:Int→Prop):Prop where
 lo:∀ p c d,dn p=some c→Out p k d→¬Extra (c+d)→b≤c+d
 hit:b=INF∨∃ p c d,dn p=some c∧Out p k d∧b=c+d
theorem OutB.least {St Out:Qbq}{s k:Nat}{dn hp:Nat→Option Int}{b:Int}(h:Dij St s dn hp)(h0:∀ p q d,St p q d→0≤d)(he:∀ q,hp q=none) (hb:OutB Out dn k b (fun _=>False)) (hlt:∀ p c d,dn p=some c→Out p k d→c+d<INF):Lst (Quf St Out s k) b:=by
 rcases hb.hit with h1|⟨p,c,d,h1,h2,h3⟩
 · right
   refine ⟨h1,fun v ⟨p,c,d,h2,h3,h4⟩=>?_⟩;obtain ⟨e,h5,_⟩:=h.all h0 he h2;have:=hb.lo p e d h5 h3 (fun h=>h);have:=hlt p e d h5 h3;omega
 · left
   refine ⟨⟨p,c,d,h.dr p c h1,h2,h3⟩,fun v ⟨q,e,f,h4,h5,h6⟩=>?_⟩;obtain ⟨x,h7,h8⟩:=h.all h0 he h4;have:=hb.lo q x f h7 h5 (fun h=>h);omega
end Go.Proofs.YthoagdpakddbdaaGreatDoor
namespace Go.Proofs.YthoagdpakddbdaaGreatDoor
open Go.RowKit Go.Proofs.Tryz
theorem Qux.gone {St:Qbq}{s:Nat}{dn hp:Nat→Option Int}{p:Nat}{c:Int}{Gone Gone':Nat→Int→Prop}(h:Qux St s dn hp p c Gone)(hg:∀ r d,St p r d→Gone' r d→Gone r d):Qux St s dn hp p c Gone' :=
 ⟨h.dr,h.dm,h.hr,h.off,fun q e r d h1 h2=>by
  rcases h.on q e r d h1 h2 with ⟨h3,h4⟩|h3
  · subst h3;exact .inl ⟨rfl,fun h5=>h4 (hg r d h2 h5)⟩
  · exact .inr h3,h.st,h.at_⟩
def StN (N:Qaj)(mk:List Bool)(s na:Nat):Qbq:=fun a b d=>∃ y,N.ar[b]?=some y∧Qbb N (if a=na then s else a) b≠1152921504606846976∧y.2.2≠1152921504606846976 ∧
 mk.getD y.1.toNat false=true∧mk.getD y.2.1.toNat false=true∧d=Qbb N (if a=na then s else a) b+y.2.2
attribute [local go_sem ↓] Go.wp_at_zero Go.wp_at_succ
theorem Qim {u:Int}(h:wOk u=true):u=1152921504606846976∨(0≤u∧u≤2147483648):=by
 unfold wOk at h;simp only [Bool.or_eq_true,Bool.and_eq_true,decide_eq_true_eq] at h;omega
theorem getD_or (l:List Int)(k:Nat)(d:Int):l.getD k d=d∨l.getD k d∈l:=by
 rcases Nat.lt_or_ge k l.length with h|h
 · exact .inr (Zm (Qbe d h))
 · exact .inl (by rw [List.getD_eq_getElem?_getD,List.getElem?_eq_none h];rfl)
theorem Qix {N:Qaj}(h:Qau N)(a b:Nat):Qbb N a b=1152921504606846976∨(0≤Qbb N a b∧Qbb N a b≤2147483648):=by
 unfold Qbb
 split
 · split
   · split
     · split
       · rename_i t ht
         rcases getD_or t.costs ((Qfi N.ar a _).1.toNat*t.outs.toNat+(Qfi N.ar b _).2.toNat) 1152921504606846976 with h1|h1
         · exact .inl h1
         · exact Qim ((h.tabs t (Zm ht)).ok _ h1)
       · exact .inl rfl
     · exact .inl rfl
   · exact .inl rfl
 · exact .inl rfl
end Go.Proofs.YthoagdpakddbdaaGreatDoor
namespace Go.Proofs.YthoagdpakddbdaaGreatDoor
def Qef (l:List Int)(c:Int):List Bool:=l.map (fun z=>z == c)
def InK (St:Qbq)(s:Nat)(D:Int)(k q:Nat):Prop:=∃ e,Rch St s q e∧e≤(k:Int)*D
theorem InK.mono {St:Qbq}{s:Nat}{D:Int}(hD:0≤D){k q:Nat}(h:InK St s D k q):InK St s D (k+1) q:=by
 obtain ⟨e,h1,h2⟩:=h;refine ⟨e,h1,?_⟩
 push_cast
 rw [Int.add_mul,Int.one_mul];omega
theorem Qkr {α:Type}{p q:α→Bool}:∀ {l:List α},(∀ x∈l,p x=true→q x=true)→(∃ x∈l,p x=false∧q x=true)→l.countP p<l.countP q
 | [],_,h=>by obtain ⟨x,hx,_⟩:=h;cases hx
 | y::l,h1,h2=>by
  have hle:l.countP p≤l.countP q:=List.countP_mono_left (fun x hx=>h1 x (by simp [hx]))
  by_cases hy:p y=true
  · have hq:=h1 y (by simp) hy
    obtain ⟨x,hx,hp,hx2⟩:=h2
    rcases List.mem_cons.1 hx with rfl|hx
    · rw [hy] at hp;cases hp
    · have:=Qkr (fun z hz=>h1 z (by simp [hz])) ⟨x,hx,hp,hx2⟩
      simp only [List.countP_cons,hy,hq,if_pos];omega
  · have hy':p y=false:=by simpa using hy
    by_cases hq:q y=true
    · simp only [List.countP_cons,hy',hq]
      simp;omega
    · obtain ⟨x,hx,hp,hx2⟩:=h2
      rcases List.mem_cons.1 hx with rfl|hx
      · exact absurd hx2 hq
      · have:=Qkr (fun z hz=>h1 z (by simp [hz])) ⟨x,hx,hp,hx2⟩
        have hq':q y=false:=by simpa using hq
        simp only [List.countP_cons,hy',hq']
        simpa using this
open Classical in
theorem InK.stable (St:Qbq)(s:Nat){D:Int}(hD:0≤D)(n:Nat):∃ k,k≤n∧∀ q,q<n→InK St s D (k+1) q→InK St s D k q:=by
 apply Classical.byContradiction
 intro hno
 have hstep:∀ k,k≤n→(List.range n).countP (fun q=>decide (InK St s D k q))<(List.range n).countP (fun q=>decide (InK St s D (k+1) q)):=fun k hk=>by
  have h1:¬∀ q,q<n→InK St s D (k+1) q→InK St s D k q:=fun h=>hno ⟨k,hk,h⟩
  have ⟨q,h2⟩:=Classical.not_forall.1 h1;have ⟨hq,h3⟩:=Classical.not_imp.1 h2;have ⟨h4,h5⟩:=Classical.not_imp.1 h3;refine Qkr (fun x _ hx=>?_) ⟨q,by simpa using hq,by simpa using h5,by simpa using h4⟩;have:=InK.mono hD (of_decide_eq_true hx)
  simpa using this
 have hall:∀ k,k≤n+1→k≤(List.range n).countP (fun q=>decide (InK St s D k q)):=fun k=>by
  induction k with
  | zero=>intro _;exact Nat.zero_le _
  | succ k ih=>intro hk;have:=ih (by omega);have:=hstep k (by omega);omega
 have h1:=hall (n+1) (Zn _);have h2:=List.countP_le_length (p:=fun q=>decide (InK St s D (n+1) q)) (l:=List.range n);rw [List.length_range] at h2;omega
theorem Rch.bound {St:Qbq}{n:Nat}{D:Int}(hD:0≤D)(hst:∀ p q d,St p q d→q<n∧d≤D){s p:Nat}{c:Int}(h:Rch St s p c):∃ e,Rch St s p e∧e≤(n:Int)*D:=by
 obtain ⟨k,hk,hs⟩:=InK.stable St s hD n
 have hin:InK St s D k p:=by
  induction h with
  | start=>exact ⟨0,.start,Int.mul_nonneg (by omega) hD⟩
  | step h1 h2 ih =>
   obtain ⟨e,h3,h4⟩:=ih;have:=hst _ _ _ h2;refine hs _ this.1 ⟨_,h3.step h2,?_⟩
   push_cast
   rw [Int.add_mul,Int.one_mul];omega
 obtain ⟨e,h1,h2⟩:=hin;exact ⟨e,h1,Int.le_trans h2 (Int.mul_le_mul_of_nonneg_right (by omega) hD)⟩
theorem Dij.bd {St:Qbq}{s:Nat}{dn hp:Nat→Option Int}(h:Dij St s dn hp){M:Int}(hM:∀ p c,Rch St s p c→∃ e,Rch St s p e∧e≤M){p:Nat}{c:Int}(hd:dn p=some c):c≤M:=by
 obtain ⟨e,h1,h2⟩:=hM p c (h.dr p c hd);have:=h.dm p c hd e h1;omega
theorem Dij.bdTake {St:Qbq}{s:Nat}{dn hp:Nat→Option Int}(h:Dij St s dn hp)(h0:∀ p q d,St p q d→0≤d){M:Int}(hM:∀ p c,Rch St s p c→∃ e,Rch St s p e∧e≤M){p:Nat}{c:Int}(hp1:hp p=some c)(hm:∀ q e,hp q=some e→c≤e):c≤M:=by
 obtain ⟨e,h1,h2⟩:=hM p c (h.hr p c hp1);have:=h.least h0 hp1 hm e h1;omega
theorem Dij.init (St:Qbq)(s:Nat){hp:Nat→Option Int}(h:∀ q,hp q=if q=s then some 0 else none):Dij St s (fun _=>none) hp where
 dr:=fun p c h=>by cases h
 dm:=fun p c h=>by cases h
 hr:=fun p c hc=>by
  rw [h] at hc
  by_cases e:p=s
  · subst e;simp at hc;subst hc;exact .start
  · simp [e] at hc
 off:=fun p c h=>by cases h
 on:=fun p c q d h=>by cases h
 st:=.inr ⟨0,by rw [h,if_pos rfl],Int.le_refl _⟩
theorem OutB.next {Out:Qbq}{dn:Nat→Option Int}{k p:Nat}{b b' c:Int} (h:OutB Out dn k b (fun _=>False)) (hp:dn p=none) (hle:b'≤b) (hout:∀ d,Out p k d→b'≤c+d) (hhit:b'=b∨∃ d,Out p k d∧b'=c+d) :
 OutB Out (fun q=>if q=p then some c else dn q) k b' (fun _=>False) where
 lo:=fun q e d hq ho _=>by
  by_cases e1:q=p
  · subst e1;simp at hq;subst hq;exact hout d ho
  · simp [e1] at hq;have:=h.lo q e d hq ho (fun h=>h);omega
 hit:=by
  rcases hhit with e|⟨d,h1,h2⟩
  · subst e
    rcases h.hit with h1|⟨q,x,d,h1,h2,h3⟩
    · exact .inl h1
    · exact .inr ⟨q,x,d,by rw [if_neg (fun e=>by rw [e,hp] at h1;cases h1)];exact h1,h2,h3⟩
  · exact .inr ⟨p,c,d,by simp,h1,h2⟩
end Go.Proofs.YthoagdpakddbdaaGreatDoor
namespace Go.Proofs.YthoagdpakddbdaaGreatDoor
open Go.RowKit Go.Proofs.Tryz
theorem Qcr {N:Qaj}{a b:Nat}(h:Qbb N a b≠1152921504606846976):∃ x y,N.ar[a]?=some x∧N.ar[b]?=some y∧x.2.1=y.1:=by
 unfold Qbb at h
 split at h
 · rename_i x y hx hy
   by_cases e:x.2.1=y.1
   · exact ⟨x,y,hx,hy,e⟩
   · rw [if_neg e] at h;exact absurd rfl h
 · exact absurd rfl h
def StA (N:Qaj)(mk:List Bool):Qbq:=fun a b d=>∃ y,N.ar[b]?=some y∧Qbb N a b≠1152921504606846976∧y.2.2≠1152921504606846976 ∧
 mk.getD y.1.toNat false=true∧mk.getD y.2.1.toNat false=true∧d=Qbb N a b+y.2.2
def OuA (N:Qaj):Qbq:=fun a t d=>Qbb N a t≠1152921504606846976∧d=Qbb N a t
def Qhr (N:Qaj)(mk:List Bool)(s t:Nat)(v:Int):Prop:=Lst (Quf (StA N mk) (OuA N) s t) v
theorem StA.lt {N:Qaj}{mk:List Bool}{a b:Nat}{d:Int}(h:StA N mk a b d):b<N.ar.length:=by
 obtain ⟨y,hy,_⟩:=h;exact (Zs hy).1
theorem StN.stA {N:Qaj}{mk:List Bool}{s na a b:Nat}{d:Int}(h:StN N mk s na a b d):StA N mk (if a=na then s else a) b d:=h
theorem StA.bd {N:Qaj}(hok:Qau N){mk:List Bool}{a b:Nat}{d:Int}(h:StA N mk a b d):0≤d∧d≤4294967296:=by
 obtain ⟨y,hy,h1,h2,_,_,rfl⟩:=h;have h3:=(Qix hok a b).resolve_left h1;have h4:=(Qim (hok.arcs y (Zm hy)).w).resolve_left h2;omega
theorem OuA.bd {N:Qaj}(hok:Qau N){a t:Nat}{d:Int}(h:OuA N a t d):0≤d∧d≤2147483648:=by
 obtain ⟨h1,rfl⟩:=h;exact (Qix hok a t).resolve_left h1
def MB:Int:=70373039144960
theorem rchN_bd {N:Qaj}(hok:Qau N){mk:List Bool}{s:Nat}(p:Nat)(c:Int) (h:Rch (StN N mk s N.ar.length) N.ar.length p c):∃ e,Rch (StN N mk s N.ar.length) N.ar.length p e∧e≤MB:=by
 obtain ⟨e,h1,h2⟩:=Rch.bound (n:=N.ar.length) (D:=4294967296) (by omega) (fun p q d h=>⟨(StN.stA h).lt,((StN.stA h).bd hok).2⟩) h;refine ⟨e,h1,?_⟩;have:=hok.la;unfold MB;omega
theorem Qkm {N:Qaj}(hok:Qau N){mk:List Bool}{s:Nat}(p:Nat)(c:Int) (h:Rch (StA N mk) s p c):∃ e,Rch (StA N mk) s p e∧e≤MB:=by
 obtain ⟨e,h1,h2⟩:=Rch.bound (n:=N.ar.length) (D:=4294967296) (by omega) (fun p q d h=>⟨h.lt,(h.bd hok).2⟩) h;refine ⟨e,h1,?_⟩;have:=hok.la;unfold MB;omega
theorem Qhr.bd {N:Qaj}(hok:Qau N){mk:List Bool}{s t:Nat}{v:Int}(h:Qhr N mk s t v):v=1152921504606846976∨(0≤v∧v≤70375186628608):=by
 rcases h with ⟨⟨p,c,d,h1,h2,rfl⟩,hm⟩|⟨h1,_⟩
 · right
   have hc:=h1.pos (fun p q d h=>(h.bd hok).1);have hd:=h2.bd hok;obtain ⟨e,h3,h4⟩:=Qkm hok p c h1;have:=hm (e+d) ⟨p,e,d,h3,h2,rfl⟩;unfold MB at h4;omega
 · exact .inl h1
theorem Qpw {bs:List Nat}{l:List Int}(h:nis bs=l)(b:Nat):b∈bs↔(b:Int)∈l:=by
 rw [←h];unfold nis
 constructor
 · intro hb;exact List.mem_map.2 ⟨b,hb,rfl⟩
 · intro hb
   obtain ⟨c,hc,e⟩:=List.mem_map.1 hb;have:c=b:=by omega
   rwa [←this]
theorem outs_mem {N:Qaj}{a b:Nat}{x:Tri} (hx:N.ar[a]?=some x) {bs:List Nat} (hbs:nis bs=idx (·.1) N.ar x.2.1) (h:Qbb N a b≠1152921504606846976):b∈bs:=by
 obtain ⟨x',y,h1,h2,h3⟩:=Qcr h;rw [hx] at h1
 cases h1
 exact (Qpw hbs b).2 (Qrj.2 ⟨b,y,rfl,h2,h3.symm⟩)
end Go.Proofs.YthoagdpakddbdaaGreatDoor
