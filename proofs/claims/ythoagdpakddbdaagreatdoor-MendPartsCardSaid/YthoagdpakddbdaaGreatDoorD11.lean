/- Parts of the proof: Nt10. -/
import Derived.Test.YthoagdpakddbdaaGreatDoorD1
import Derived.Test.YthoagdpakddbdaaGreatDoorD4
namespace Go.Proofs.YthoagdpakddbdaaGreatDoor
open Go.RowKit Go.Proofs.Tryz
attribute [local go_sem ↓] Go.wp_at_zero Go.wp_at_succ
theorem Qse:(Tryz.prog.info? 144).map (fun i=>(i.zero,i.size,i.bytes))=some (some (.agg #[.int .i64 0,.int .i64 0,.int .i64 0]),3,24):=by kernel_rfl
theorem Qwy:(Tryz.prog.info? 146).map (fun i=>(i.zero,i.size,i.bytes))=some (some (.agg #[.int .i64 0,.int .i64 0,.int .i64 0]),3,24):=by kernel_rfl
theorem Qhp:(Tryz.prog.info? 143).map (fun i=>(i.zero,i.size,i.bytes))=some (some (.agg #[.int .i64 0,.int .i64 0,.slice none 0 0]),3,40):=by kernel_rfl
theorem Qkt {L:List Tri}{k:Nat}{p:Tri} (h:L[k]?=some p):Qat (L.take (k+1))=Qat (L.take k) ++[.int .i64 p.1,.int .i64 p.2.1,.int .i64 p.2.2]:=by
 have hlt:=(Zs h).1;have e:=(Zs h).2;rw [List.take_succ_eq_append_getElem hlt,e,Qfx]
 rfl
theorem Qck (x y z:Int):∀ u∈[Value.int .i64 x,Value.int .i64 y,Value.int .i64 z],u.oneCell'=true:=by
 intro u hu;simp at hu
 rcases hu with rfl|rfl|rfl <;> rfl
theorem Own.apart {w:World}{B' s' n' c':Nat}{e':TypeId}{A A':Option Addr}{xs':List Value}(h:∀ g,Qab A=some g→g<B')(h':Own w B' e' s' A' n' c' xs'):Qab A=none∨Qab A≠Qab A':=by
 cases hA:Qab A with
 | none=>exact .inl rfl
 | some g =>
  refine .inr (fun e=>?_);have:=(h'.lt g e.symm).1;have:=h g hA;omega
--BODY
set_option maxHeartbeats 1000000 in
set_option maxRecDepth 20000 in
theorem Qvy (A B C:Option Addr)(n m k c d e:Nat)(N:Qaj)(w:World)(h:Qbo w A B C n m k N)(hn:n≤1000000)(hm:m≤1000000)(hk:k≤1000000)(hc:∀ t∈N.ts,t.costs.length≤1000000) :
 Calls prog 47 #[.agg #[.slice A n c,.slice B m d,.slice C k e]] w fun r w'=>∃ A' B' C' c' d' e',r=.returned (.agg #[.slice A' n c',.slice B' m d',.slice C' k e'])∧Qbo w' A' B' C' n m k N∧Below w.heap.size w w':=by
 have HV:=Zh h.1;have HA:=Zh h.2.1;have HY:=Zh h.2.2;have HC:=Zh hc;clear h hc
 go_enter func47,ntmps47
 go_wp2_with fail
 (refine Qag ?_;intro w1 hw1)
 have hb1:Below w.heap.size w w1:=by rw [hw1];exact Qae
 have hJ:Blk w1 w.heap.size 26 #[.slice A n c,.slice B m d,.slice C k e]:=by rw [hw1];exact Qay
 have hR:Blk w1 (w.heap.size+1) 120 #[.slice none 0 0,.slice none 0 0,.slice none 0 0]:=by rw [hw1];exact Qay
 have hK0:Blk w1 (w.heap.size+2) 120 #[.slice none 0 0,.slice none 0 0,.slice none 0 0]:=by rw [hw1];exact Qay
 clear hw1
 go_loopw [4] (fun i W=>Below w.heap.size w W∧Blk W w.heap.size 26 #[.slice A n c,.slice B m d,.slice C k e]∧Blk W (w.heap.size+1) 120 #[.slice none 0 0,.slice none 0 0,.slice none 0 0]∧∃ (j:Nat) (A3:Option Addr) (c3:Nat),j≤n∧i=.int .i64 j∧Blk W (w.heap.size+2) 120 #[.slice A3 j c3,.slice none 0 0,.slice none 0 0]∧Own W (w.heap.size+3) 144 3 A3 j c3 (Qat (N.vs.take j))) (fun i _=>n-(intOf i).toNat)
 case atStart=>exact ⟨hb1,hJ,hR,0,none,0,Nat.zero_le _,rfl,hK0,by simpa [Qat] using Own.nil _ _ _ _⟩
 case round =>
  clear hb1 hJ hR hK0;obtain ⟨hbl,hJ,hR,j,A3,c3,hj,rfl,hK0,hown⟩:=hrel;obtain ⟨j0,j1,j2⟩:=hJ.three;obtain ⟨k0,k1,k2⟩:=hK0.three
  by_cases hlt:j<n
  · obtain ⟨sb,so,x,y,z,rfl,hx,cx,cy,cz⟩:=HV.out.at_ hlt
    have HN:=Zh (Qkt hx);have dx:=Zc hbl (Zn _) cx;have dy:=Zc hbl (Zn _) cy;have dz:=Zc hbl (Zn _) cz
    have HSX:=Zh (show ∀ V,Below (w.heap.size+2) wr V→V.cell? ⟨w.heap.size,0,none⟩=some (.slice (some ⟨sb,so,none⟩) n c)∧V.cell? ⟨sb,so+j*3,none⟩=some (.int .i64 x)∧V.cell? ⟨sb,so+j*3+1,none⟩=some (.int .i64 y)∧V.cell? ⟨sb,so+j*3+2,none⟩=some (.int .i64 z) from
     fun V hb=>⟨(hb.cell (by simp only;omega)).trans j0,(hb.cell (by have:=Qak cx;simp only at this ⊢;omega)).trans dx,(hb.cell (by have:=Qak cx;simp only at this ⊢;omega)).trans dy,(hb.cell (by have:=Qak cx;simp only at this ⊢;omega)).trans dz⟩)
    have i3:(0:Int)≤(j:Int):=by omega
    have i4:(j:Int)<(n:Int):=by omega
    have hsz:w.heap.size+3≤wr.heap.size:=by have:=hK0.lt;omega
    clear hx cx cy cz dx dy dz j1 j2 k0 k1 k2
    go_wp2_with fail
    refine wp_region_held_drew (S:=fun V=>Below (w.heap.size+2) wr V) (by kernel_rfl) (Zr _ _).drew (fun _=>?_);refine tz 0 14 ?_;refine tz 2 16 ?_;refine tz 3 17 ?_;refine tz 4 18 ?_;refine tz 5 19 ?_;refine tz 6 20 ?_;refine tz 7 21 ?_;refine tz 8 22 ?_;refine tz 9 23 ?_;refine tz 10 24 ?_;refine tz 11 25 ?_;refine tz 12 26 ?_;refine tz 13 27 ?_;refine tz 14 28 ?_;refine tz 15 29 ?_;refine tz 16 30 ?_;refine tz 17 31 ?_;refine tz 18 32 ?_;refine tz 19 33 ?_;refine tz 20 34 ?_;refine wpAnyH_ready (rs:=[1,21]) (by kernel_rfl) (by simp) ?_;refine AllReadyH.cons (o:=_) rfl (fun K hK=>?_) (AllReadyH.cons (o:=_) rfl (fun K hK=>?_) AllReadyH.nil)
    · have k3a:=hK0.three
      obtain ⟨k3a,k3b,k3c⟩:=k3a;go_simp;refine hK.out _ _ (Zr _ _).drew (fun _=>?_);clear hK K k3a k3b k3c;refine Zk 21 (fun K hK=>?_);go_simp;refine hK.out _ _ (((Zr _ _).alloc (by omega) _).drew) (fun _=>?_);clear hK K;have hW:∃ W,W=(wr.alloc (.cells #[.int .i64 x,.int .i64 y,.int .i64 z] 144)).drew:=⟨_,rfl⟩;obtain ⟨W,hW⟩:=hW;rw [←hW];have hownW:Own W (w.heap.size+3) 144 3 A3 j c3 (Qat (N.vs.take j)):=by rw [hW];exact (by repeat (first|assumption|apply Own.drewN|apply Own.drew|apply Own.alloc))
      skip
      have hrdW:Rds W 3 (some ⟨wr.heap.size,0,none⟩) 1 [.int .i64 x,.int .i64 y,.int .i64 z]:=by rw [hW];exact (Blk.new wr 144 #[.int .i64 x,.int .i64 y,.int .i64 z]).rds rfl
      have hbW:Below (w.heap.size+2) wr W:=by rw [hW];exact ((Zr _ _).alloc (by omega) _).drew
      have hblW:Below w.heap.size w W:=by rw [hW];exact Qae
      have hJW:Blk W w.heap.size 26 #[.slice (some ⟨sb,so,none⟩) n c,.slice B m d,.slice C k e]:=by rw [hW];exact Qgg
      have hRW:Blk W (w.heap.size+1) 120 #[.slice none 0 0,.slice none 0 0,.slice none 0 0]:=by rw [hW];exact Qgg
      have hKW:Blk W (w.heap.size+2) 120 #[.slice A3 j c3,.slice none 0 0,.slice none 0 0]:=by rw [hW];exact Qgg
      have hWsz:(w.heap.size+3)≤W.heap.size:=by rw [hW];simp;omega
      clear hW;refine Zk 22 (fun K hK=>?_);with_reducible refine Qal (some 36) rfl rfl (.tmp 15) (.tmp 35) 116 rfl 144 _ 3 24 Qse underlying116 rfl (by omega) rfl rfl hownW hrdW (Qck x y z) (by omega) (by omega) hWsz ?_
      intro A' c' w' hown' hg _;have hb5:Below (w.heap.size+2) wr w':=Bel.grownOwn hbW hg (hownW.mono (by omega)) (by omega);have hb6:Below w.heap.size w w':=Bel.grownOwn hblW hg (hownW.mono (by omega)) (by omega);have hJ':=hJW.grown hg (hownW.ne (by omega));have hR':=hRW.grown hg (hownW.ne (by omega));have hK':=hKW.grown hg (hownW.ne (by omega))
      skip
      clear hownW hrdW hbW hblW hJW hRW hKW hg;refine hK.out _ _ hb5 (fun _=>?_);clear hK K;simp only [Act.put,List.setIfInBounds_toArray,List.set_cons_zero,List.set_cons_succ];refine tz 23 37 ?_;have k3':=hK'.three;have kf':=hK'.frozen 0;obtain ⟨k3a,k3b,k3c⟩:=k3';refine Zk 24 (fun K hK=>?_);go_simp;refine hK.out _ _ (hb5.setCell (by simp only;omega) _) (fun _=>?_);clear hK K;refine Zd ?_;have HO:=Zh (hown'.far (Qaa w' (w.heap.size+2) 0 (.slice A' (j+1) c')) (.inr (hown'.ne (by omega))));have HK2:=Zh (hK'.set_ 0 (.slice A' (j+1) c'))
      skip
      clear hown' hK' k3a k3b k3c kf'
      go_wp2_with fail
      go_roundw
      case rel=>exact ⟨Qae,Qgg,Qgg,j+1,A',c',by omega,by go_num,HK2.out,by rw [HN.out];exact HO.out⟩
      case measure=>simp [intOf];omega
    · go_simp
      refine hK.out _ _ (((Zr _ _).alloc (by omega) _).drew) (fun _=>?_);clear hK K;have k3a:=fun o=>(hK0.alloc o).three.1
      have k3b:=fun o=>(hK0.alloc o).three.2.1
      refine Zk 1 (fun K hK=>?_);go_simp;refine hK.out _ _ (((Zr _ _).alloc (by omega) _).drew) (fun _=>?_);clear hK K k3a k3b;have hW:∃ W,W=(wr.alloc (.cells #[.int .i64 x,.int .i64 y,.int .i64 z] 144)).drew:=⟨_,rfl⟩;obtain ⟨W,hW⟩:=hW;rw [←hW];have hownW:Own W (w.heap.size+3) 144 3 A3 j c3 (Qat (N.vs.take j)):=by rw [hW];exact (by repeat (first|assumption|apply Own.drewN|apply Own.drew|apply Own.alloc))
      skip
      have hrdW:Rds W 3 (some ⟨wr.heap.size,0,none⟩) 1 [.int .i64 x,.int .i64 y,.int .i64 z]:=by rw [hW];exact (Blk.new wr 144 #[.int .i64 x,.int .i64 y,.int .i64 z]).rds rfl
      have hbW:Below (w.heap.size+2) wr W:=by rw [hW];exact ((Zr _ _).alloc (by omega) _).drew
      have hblW:Below w.heap.size w W:=by rw [hW];exact Qae
      have hJW:Blk W w.heap.size 26 #[.slice (some ⟨sb,so,none⟩) n c,.slice B m d,.slice C k e]:=by rw [hW];exact Qgg
      have hRW:Blk W (w.heap.size+1) 120 #[.slice none 0 0,.slice none 0 0,.slice none 0 0]:=by rw [hW];exact Qgg
      have hKW:Blk W (w.heap.size+2) 120 #[.slice A3 j c3,.slice none 0 0,.slice none 0 0]:=by rw [hW];exact Qgg
      have hWsz:(w.heap.size+3)≤W.heap.size:=by rw [hW];simp;omega
      clear hW;refine Zk 22 (fun K hK=>?_);with_reducible refine Qal (some 36) rfl rfl (.tmp 15) (.tmp 35) 116 rfl 144 _ 3 24 Qse underlying116 rfl (by omega) rfl rfl hownW hrdW (Qck x y z) (by omega) (by omega) hWsz ?_
      intro A' c' w' hown' hg _;have hb5:Below (w.heap.size+2) wr w':=Bel.grownOwn hbW hg (hownW.mono (by omega)) (by omega);have hb6:Below w.heap.size w w':=Bel.grownOwn hblW hg (hownW.mono (by omega)) (by omega);have hJ':=hJW.grown hg (hownW.ne (by omega));have hR':=hRW.grown hg (hownW.ne (by omega));have hK':=hKW.grown hg (hownW.ne (by omega))
      skip
      clear hownW hrdW hbW hblW hJW hRW hKW hg;refine hK.out _ _ hb5 (fun _=>?_);clear hK K;simp only [Act.put,List.setIfInBounds_toArray,List.set_cons_zero,List.set_cons_succ];refine tz 23 37 ?_;have k3':=hK'.three;have kf':=hK'.frozen 0;obtain ⟨k3a,k3b,k3c⟩:=k3';refine Zk 24 (fun K hK=>?_);go_simp;refine hK.out _ _ (hb5.setCell (by simp only;omega) _) (fun _=>?_);clear hK K;refine Zd ?_;have HO:=Zh (hown'.far (Qaa w' (w.heap.size+2) 0 (.slice A' (j+1) c')) (.inr (hown'.ne (by omega))));have HK2:=Zh (hK'.set_ 0 (.slice A' (j+1) c'))
      skip
      clear hown' hK' k3a k3b k3c kf'
      go_wp2_with fail
      go_roundw
      case rel=>exact ⟨Qae,Qgg,Qgg,j+1,A',c',by omega,by go_num,HK2.out,by rw [HN.out];exact HO.out⟩
      case measure=>simp [intOf];omega
  · obtain rfl:n=j:=by omega
    obtain ⟨A1,rfl⟩:∃ A1,A1=A3:=⟨_,rfl⟩;obtain ⟨c1,rfl⟩:∃ c1,c1=c3:=⟨_,rfl⟩;rw [List.take_of_length_le (by rw [HV.out.1];exact Zn _)] at hown;obtain ⟨w2,hw2⟩:∃ w2,w2=wr:=⟨_,rfl⟩;subst hw2;have hz2:w.heap.size+3≤w2.heap.size:=by have:=hK0.lt;omega
    have HLT:=Zh (fun g hg=>(hown.lt g hg).2)
    go_wp2_with fail
    go_loopw [5] (fun i W=>w2.heap.size≤W.heap.size∧Below w.heap.size w W∧Blk W w.heap.size 26 #[.slice A n c,.slice B m d,.slice C k e]∧Blk W (w.heap.size+1) 120 #[.slice none 0 0,.slice none 0 0,.slice none 0 0]∧Own W (w.heap.size+3) 144 3 A1 n c1 (Qat N.vs)∧∃ (j:Nat) (A3:Option Addr) (c3:Nat),j≤m∧i=.int .i64 j∧Blk W (w.heap.size+2) 120 #[.slice A1 n c1,.slice A3 j c3,.slice none 0 0]∧Own W w2.heap.size 146 3 A3 j c3 (Qat (N.ar.take j))) (fun i _=>m-(intOf i).toNat)
    case atStart=>exact ⟨Zn _,hbl,hJ,hR,hown,0,none,0,Nat.zero_le _,rfl,hK0,by simpa [Qat] using Own.nil _ _ _ _⟩
    case round =>
     clear hbl hJ hR hown hK0 j0 j1 j2 k0 k1 k2 hj;obtain ⟨hszr,hbl,hJ,hR,hVo,j,A3,c3,hj,rfl,hK0,hown⟩:=hrel;obtain ⟨j0,j1,j2⟩:=hJ.three;obtain ⟨k0,k1,k2⟩:=hK0.three
     by_cases hlt:j<m
     · obtain ⟨sb,so,x,y,z,rfl,hx,cx,cy,cz⟩:=HA.out.at_ hlt
       have HN:=Zh (Qkt hx);have dx:=Zc hbl (Zn _) cx;have dy:=Zc hbl (Zn _) cy;have dz:=Zc hbl (Zn _) cz
       have HSX:=Zh (show ∀ V,Below (w.heap.size+2) wr V→V.cell? ⟨w.heap.size,1,none⟩=some (.slice (some ⟨sb,so,none⟩) m d)∧V.cell? ⟨sb,so+j*3,none⟩=some (.int .i64 x)∧V.cell? ⟨sb,so+j*3+1,none⟩=some (.int .i64 y)∧V.cell? ⟨sb,so+j*3+2,none⟩=some (.int .i64 z) from
        fun V hb=>⟨(hb.cell (by simp only;omega)).trans j1,(hb.cell (by have:=Qak cx;simp only at this ⊢;omega)).trans dx,(hb.cell (by have:=Qak cx;simp only at this ⊢;omega)).trans dy,(hb.cell (by have:=Qak cx;simp only at this ⊢;omega)).trans dz⟩)
       have i3:(0:Int)≤(j:Int):=by omega
       have i4:(j:Int)<(m:Int):=by omega
       have hsz:w2.heap.size≤wr.heap.size:=hszr;clear hx cx cy cz dx dy dz j0 j2 k0 k1 k2
       go_wp2_with fail
       refine wp_region_held_drew (S:=fun V=>Below (w.heap.size+2) wr V) (by kernel_rfl) (Zr _ _).drew (fun _=>?_);refine tz 0 45 ?_;refine tz 2 47 ?_;refine tz 3 48 ?_;refine tz 4 49 ?_;refine tz 5 50 ?_;refine tz 6 51 ?_;refine tz 7 52 ?_;refine tz 8 53 ?_;refine tz 9 54 ?_;refine tz 10 55 ?_;refine tz 11 56 ?_;refine tz 12 57 ?_;refine tz 13 58 ?_;refine tz 14 59 ?_;refine tz 15 60 ?_;refine tz 16 61 ?_;refine tz 17 62 ?_;refine tz 18 63 ?_;refine tz 19 64 ?_;refine tz 20 65 ?_;refine wpAnyH_ready (rs:=[1,21]) (by kernel_rfl) (by simp) ?_;refine AllReadyH.cons (o:=_) rfl (fun K hK=>?_) (AllReadyH.cons (o:=_) rfl (fun K hK=>?_) AllReadyH.nil)
       · have k3a:=hK0.three
         obtain ⟨k3a,k3b,k3c⟩:=k3a;go_simp;refine hK.out _ _ (Zr _ _).drew (fun _=>?_);clear hK K k3a k3b k3c;refine Zk 21 (fun K hK=>?_);go_simp;refine hK.out _ _ (((Zr _ _).alloc (by omega) _).drew) (fun _=>?_);clear hK K;have hW:∃ W,W=(wr.alloc (.cells #[.int .i64 x,.int .i64 y,.int .i64 z] 146)).drew:=⟨_,rfl⟩;obtain ⟨W,hW⟩:=hW;rw [←hW];have hownW:Own W w2.heap.size 146 3 A3 j c3 (Qat (N.ar.take j)):=by rw [hW];exact (by repeat (first|assumption|apply Own.drewN|apply Own.drew|apply Own.alloc))
         have hVW:Own W (w.heap.size+3) 144 3 A1 n c1 (Qat N.vs):=by rw [hW];exact (by repeat (first|assumption|apply Own.drewN|apply Own.drew|apply Own.alloc))
         have hrdW:Rds W 3 (some ⟨wr.heap.size,0,none⟩) 1 [.int .i64 x,.int .i64 y,.int .i64 z]:=by rw [hW];exact (Blk.new wr 146 #[.int .i64 x,.int .i64 y,.int .i64 z]).rds rfl
         have hbW:Below (w.heap.size+2) wr W:=by rw [hW];exact ((Zr _ _).alloc (by omega) _).drew
         have hblW:Below w.heap.size w W:=by rw [hW];exact Qae
         have hJW:Blk W w.heap.size 26 #[.slice A n c,.slice (some ⟨sb,so,none⟩) m d,.slice C k e]:=by rw [hW];exact Qgg
         have hRW:Blk W (w.heap.size+1) 120 #[.slice none 0 0,.slice none 0 0,.slice none 0 0]:=by rw [hW];exact Qgg
         have hKW:Blk W (w.heap.size+2) 120 #[.slice A1 n c1,.slice A3 j c3,.slice none 0 0]:=by rw [hW];exact Qgg
         have hWsz:w2.heap.size≤W.heap.size:=by rw [hW];simp;omega
         clear hW;refine Zk 22 (fun K hK=>?_);with_reducible refine Qal (some 67) rfl rfl (.tmp 46) (.tmp 66) 117 rfl 146 _ 3 24 Qwy underlying117 rfl (by omega) rfl rfl hownW hrdW (Qck x y z) (by omega) (by omega) hWsz ?_
         intro A' c' w' hown' hg _;have hb5:Below (w.heap.size+2) wr w':=Bel.grownOwn hbW hg (hownW.mono (by omega)) (by omega);have hb6:Below w.heap.size w w':=Bel.grownOwn hblW hg (hownW.mono (by omega)) (by omega);have hJ':=hJW.grown hg (hownW.ne (by omega));have hR':=hRW.grown hg (hownW.ne (by omega));have hK':=hKW.grown hg (hownW.ne (by omega));have hV':=hVW.far hg (Own.apart HLT.out hownW);clear hVW;clear hownW hrdW hbW hblW hJW hRW hKW hg;refine hK.out _ _ hb5 (fun _=>?_);clear hK K;simp only [Act.put,List.setIfInBounds_toArray,List.set_cons_zero,List.set_cons_succ];refine tz 23 68 ?_;have k3':=hK'.three;have kf':=hK'.frozen 1;obtain ⟨k3a,k3b,k3c⟩:=k3';refine Zk 24 (fun K hK=>?_);go_simp;refine hK.out _ _ (hb5.setCell (by simp only;omega) _) (fun _=>?_);clear hK K;refine Zd ?_;have HO:=Zh (hown'.far (Qaa w' (w.heap.size+2) 1 (.slice A' (j+1) c')) (.inr (hown'.ne (by omega))));have HK2:=Zh (hK'.set_ 1 (.slice A' (j+1) c'));have HV2:=Zh (hV'.far (Qaa w' (w.heap.size+2) 1 (.slice A' (j+1) c')) (.inr (hV'.ne (by omega))));clear hV';clear hown' hK' k3a k3b k3c kf'
         go_wp2_with fail
         go_roundw
         case rel=>exact ⟨(by have:=hb5.size;simp [World.setCell];omega),Qae,Qgg,Qgg,HV2.out,j+1,A',c',by omega,by go_num,HK2.out,by rw [HN.out];exact HO.out⟩
         case measure=>simp [intOf];omega
       · go_simp
         refine hK.out _ _ (((Zr _ _).alloc (by omega) _).drew) (fun _=>?_);clear hK K;have k3a:=fun o=>(hK0.alloc o).three.1
         have k3b:=fun o=>(hK0.alloc o).three.2.1
         refine Zk 1 (fun K hK=>?_);go_simp;refine hK.out _ _ (((Zr _ _).alloc (by omega) _).drew) (fun _=>?_);clear hK K k3a k3b;have hW:∃ W,W=(wr.alloc (.cells #[.int .i64 x,.int .i64 y,.int .i64 z] 146)).drew:=⟨_,rfl⟩;obtain ⟨W,hW⟩:=hW;rw [←hW];have hownW:Own W w2.heap.size 146 3 A3 j c3 (Qat (N.ar.take j)):=by rw [hW];exact (by repeat (first|assumption|apply Own.drewN|apply Own.drew|apply Own.alloc))
         have hVW:Own W (w.heap.size+3) 144 3 A1 n c1 (Qat N.vs):=by rw [hW];exact (by repeat (first|assumption|apply Own.drewN|apply Own.drew|apply Own.alloc))
         have hrdW:Rds W 3 (some ⟨wr.heap.size,0,none⟩) 1 [.int .i64 x,.int .i64 y,.int .i64 z]:=by rw [hW];exact (Blk.new wr 146 #[.int .i64 x,.int .i64 y,.int .i64 z]).rds rfl
         have hbW:Below (w.heap.size+2) wr W:=by rw [hW];exact ((Zr _ _).alloc (by omega) _).drew
         have hblW:Below w.heap.size w W:=by rw [hW];exact Qae
         have hJW:Blk W w.heap.size 26 #[.slice A n c,.slice (some ⟨sb,so,none⟩) m d,.slice C k e]:=by rw [hW];exact Qgg
         have hRW:Blk W (w.heap.size+1) 120 #[.slice none 0 0,.slice none 0 0,.slice none 0 0]:=by rw [hW];exact Qgg
         have hKW:Blk W (w.heap.size+2) 120 #[.slice A1 n c1,.slice A3 j c3,.slice none 0 0]:=by rw [hW];exact Qgg
         have hWsz:w2.heap.size≤W.heap.size:=by rw [hW];simp;omega
         clear hW;refine Zk 22 (fun K hK=>?_);with_reducible refine Qal (some 67) rfl rfl (.tmp 46) (.tmp 66) 117 rfl 146 _ 3 24 Qwy underlying117 rfl (by omega) rfl rfl hownW hrdW (Qck x y z) (by omega) (by omega) hWsz ?_
         intro A' c' w' hown' hg _;have hb5:Below (w.heap.size+2) wr w':=Bel.grownOwn hbW hg (hownW.mono (by omega)) (by omega);have hb6:Below w.heap.size w w':=Bel.grownOwn hblW hg (hownW.mono (by omega)) (by omega);have hJ':=hJW.grown hg (hownW.ne (by omega));have hR':=hRW.grown hg (hownW.ne (by omega));have hK':=hKW.grown hg (hownW.ne (by omega));have hV':=hVW.far hg (Own.apart HLT.out hownW);clear hVW;clear hownW hrdW hbW hblW hJW hRW hKW hg;refine hK.out _ _ hb5 (fun _=>?_);clear hK K;simp only [Act.put,List.setIfInBounds_toArray,List.set_cons_zero,List.set_cons_succ];refine tz 23 68 ?_;have k3':=hK'.three;have kf':=hK'.frozen 1;obtain ⟨k3a,k3b,k3c⟩:=k3';refine Zk 24 (fun K hK=>?_);go_simp;refine hK.out _ _ (hb5.setCell (by simp only;omega) _) (fun _=>?_);clear hK K;refine Zd ?_;have HO:=Zh (hown'.far (Qaa w' (w.heap.size+2) 1 (.slice A' (j+1) c')) (.inr (hown'.ne (by omega))));have HK2:=Zh (hK'.set_ 1 (.slice A' (j+1) c'));have HV2:=Zh (hV'.far (Qaa w' (w.heap.size+2) 1 (.slice A' (j+1) c')) (.inr (hV'.ne (by omega))));clear hV';clear hown' hK' k3a k3b k3c kf'
         go_wp2_with fail
         go_roundw
         case rel=>exact ⟨(by have:=hb5.size;simp [World.setCell];omega),Qae,Qgg,Qgg,HV2.out,j+1,A',c',by omega,by go_num,HK2.out,by rw [HN.out];exact HO.out⟩
         case measure=>simp [intOf];omega
     · obtain rfl:m=j:=by omega
       obtain ⟨A3',rfl⟩:∃ A3',A3'=A3:=⟨_,rfl⟩;obtain ⟨c3',rfl⟩:∃ c3',c3'=c3:=⟨_,rfl⟩;rw [List.take_of_length_le (by rw [HA.out.1];exact Zn _)] at hown;obtain ⟨w3,hw3⟩:∃ w3,w3=wr:=⟨_,rfl⟩;subst hw3;have HLV:=HLT;clear HLT;have HLT:=Zh (show ∀ g,Qab A1=some g→g<w3.heap.size from fun g hg=>by have:=HLV.out g hg;omega)
       have HLA:=Zh (fun g hg=>(hown.lt g hg).2);clear HLV;have hz3:w.heap.size+3≤w3.heap.size:=by omega
       go_wp2_with fail
       go_loopw [6] (fun i W=>w3.heap.size≤W.heap.size∧Below w.heap.size w W∧Blk W w.heap.size 26 #[.slice A n c,.slice B m d,.slice C k e]∧Blk W (w.heap.size+1) 120 #[.slice none 0 0,.slice none 0 0,.slice none 0 0]∧Own W (w.heap.size+3) 144 3 A1 n c1 (Qat N.vs)∧Own W w2.heap.size 146 3 A3' m c3' (Qat N.ar)∧∃ (j:Nat) (C3:Option Addr) (e3:Nat) (xs:List Value),j≤k∧i=.int .i64 j∧Blk W (w.heap.size+2) 120 #[.slice A1 n c1,.slice A3' m c3',.slice C3 j e3]∧YwO W w3.heap.size C3 j e3 xs (N.ts.take j)) (fun i _=>k-(intOf i).toNat)
       case atStart=>exact ⟨Zn _,hbl,hJ,hR,hVo,hown,0,none,0,[],Nat.zero_le _,rfl,hK0,by simpa using YwO.nil _ _⟩
       case round =>
        clear hbl hJ hR hown hK0 j0 j1 j2 k0 k1 k2 hj hVo hszr;obtain ⟨hszr,hbl,hJ,hR,hVo,hAo,j,C3,e3,xs,hj,rfl,hK0,hown⟩:=hrel;obtain ⟨j0,j1,j2⟩:=hJ.three
        by_cases hlt:j<k
        · obtain ⟨sb,so,t,rfl,ht,cx,cy,A',n',c',cz,hr,hc1',hc2'⟩:=HY.out.at_ hlt
          have HN:=Zh (show N.ts.take (j+1)=N.ts.take j ++[t] by
           rw [List.take_succ_eq_append_getElem (Zs ht).1,(Zs ht).2])
          have HTC:=Zh (show ∀ V,Below w.heap.size w V→Calls prog 89 #[.agg #[.int .i64 t.ins,.int .i64 t.outs,.slice A' n' c']] V (fun e w'=>∃ A2 c2,e=.returned (.agg #[.int .i64 t.ins,.int .i64 t.outs,.slice A2 n' c2])∧Own w' V.heap.size 2 1 A2 n' c2 (Qad t.costs)∧Below V.heap.size V w') from
           fun V hV=>Qxj A' n' c' t V (hr.below hV) (by have:=HC.out t (Zm ht);rw [hr.1] at this;exact this))
          have dx:=Zc hbl (Zn _) cx;have dy:=Zc hbl (Zn _) cy;have dz:=Zc hbl (Zn _) cz
          have HSX:=Zh (show ∀ V,Below (w.heap.size+2) wr V→V.cell? ⟨w.heap.size,2,none⟩=some (.slice (some ⟨sb,so,none⟩) k e)∧V.cell? ⟨sb,so+j*3,none⟩=some (.int .i64 t.ins)∧V.cell? ⟨sb,so+j*3+1,none⟩=some (.int .i64 t.outs)∧V.cell? ⟨sb,so+j*3+2,none⟩=some (.slice A' n' c') from
           fun V hb=>⟨(hb.cell (by simp only;omega)).trans j2,(hb.cell (by have:=Qak cx;simp only at this ⊢;omega)).trans dx,(hb.cell (by have:=Qak cx;simp only at this ⊢;omega)).trans dy,(hb.cell (by have:=Qak cx;simp only at this ⊢;omega)).trans dz⟩)
          have i3:(0:Int)≤(j:Int):=by omega
          have i4:(j:Int)<(k:Int):=by omega
          have hsz:w3.heap.size≤wr.heap.size:=hszr;clear hr ht cx cy cz dx dy dz j0 j1 hc1' hc2'
          go_wp2_with fail
          refine wp_region_held_drew (S:=fun V=>Below (w.heap.size+2) wr V) (by kernel_rfl) (Zr _ _).drew (fun _=>?_);refine tz 0 76 ?_;refine tz 2 78 ?_;refine tz 3 79 ?_;refine tz 4 80 ?_;refine tz 5 81 ?_;refine tz 6 82 ?_;refine wpAnyH_ready (rs:=[1,7]) (by kernel_rfl) (by simp) ?_;refine AllReadyH.cons (o:=_) rfl (fun K hK=>?_) (AllReadyH.cons (o:=_) rfl (fun K hK=>?_) AllReadyH.nil)
          · have k3a:=hK0.three
            obtain ⟨k3a,k3b,k3c⟩:=k3a;go_simp;refine hK.out _ _ (Zr _ _).drew (fun _=>?_);clear hK K k3a k3b k3c;refine Zk 7 (fun K hK=>?_);go_simp;with_reducible refine (HTC.out _ Qae).mono ?_
            rintro r w4 ⟨A2,c2,rfl,hrc,hb4⟩;have hbr4:Below wr.heap.size wr w4:=Zb Qae hb4;clear hb4
            go_wp2_with fail
            refine hK.out _ _ (hbr4.mono (by omega)) (fun _=>?_);clear hK K;refine Zk 8 (fun K hK=>?_);go_simp;refine hK.out _ _ (Below.alloc (hbr4.mono (by omega)) (by have:=hbr4.size;omega) _) (fun _=>?_);clear hK K;have hrc:Own w4 wr.heap.size 2 1 A2 n' c2 (Qad t.costs):=hrc;have hW:∃ W,W=w4.alloc (.cells #[.int .i64 t.ins,.int .i64 t.outs,.slice A2 n' c2] 143):=⟨_,rfl⟩;obtain ⟨W,hW⟩:=hW;rw [←hW];have hb4W:Below w4.heap.size w4 W:=by rw [hW];exact Qae
            have hrdW:Rds W 3 (some ⟨w4.heap.size,0,none⟩) 1 [.int .i64 t.ins,.int .i64 t.outs,.slice A2 n' c2]:=by rw [hW];exact (Blk.new w4 143 #[.int .i64 t.ins,.int .i64 t.outs,.slice A2 n' c2]).rds rfl
            clear hW;have hbrW:Below wr.heap.size wr W:=Zb hbr4 hb4W;have hyW:=hown.below hbrW;have hVW:=hVo.below hbrW;have hAW:=hAo.below hbrW;have hbW:Below (w.heap.size+2) wr W:=hbrW.mono (by omega);have hblW:Below w.heap.size w W:=Zb hbl hbrW;have hJW:=hJ.below hbrW hJ.lt;have hRW:=hR.below hbrW hR.lt;have hKW:=hK0.below hbrW hK0.lt;have hcW:=hrc.rds.rdI.below hb4W
            have hclW:∀ g,Qab A2=some g→w3.heap.size≤g∧g<W.heap.size∧Qab C3≠some g:=fun g hg=>by
             have h1:=hrc.lt g hg;refine ⟨by omega,Nat.lt_of_lt_of_le h1.2 hb4W.size,fun e=>?_⟩;have h2:=(hown.1.lt g e).2;omega
            have hcapW:=hrc.cap;have hcapM:=hrc.capMax;have hWsz:w3.heap.size≤W.heap.size:=by have:=hbrW.size;omega
            have HYY:=Zh hyW;have hownY:=hyW.1
            have HONE:=Zh (show ∀ u∈[Value.int .i64 t.ins,.int .i64 t.outs,.slice A2 n' c2],u.oneCell'=true from fun u hu=>by
             simp at hu
             rcases hu with rfl|rfl|rfl <;> rfl)
            clear hyW;refine Zk 9 (fun K hK=>?_);with_reducible refine Qal (some 85) rfl rfl (.tmp 77) (.tmp 84) 118 rfl 143 _ 3 40 Qhp underlying118 rfl (by omega) rfl rfl hownY hrdW HONE.out (by omega) (by omega) hWsz ?_
            intro A' c' w' hown' hg hat;have hb5:Below (w.heap.size+2) wr w':=Bel.grownOwn hbW hg (hownY.mono (by omega)) (by omega);have hb6:Below w.heap.size w w':=Bel.grownOwn hblW hg (hownY.mono (by omega)) (by omega);have hJ':=hJW.grown hg (hownY.ne (by omega));have hR':=hRW.grown hg (hownY.ne (by omega));have hK':=hKW.grown hg (hownY.ne (by omega));have hV':=hVW.far hg (Own.apart HLT.out hownY);have hA':=hAW.far hg (Own.apart HLA.out hownY);have HYN:=Zh (HYY.out.push hown' hg hat hcW hclW hcapW hcapM);clear hownY hrdW hbW hblW hJW hRW hKW hg hVW hAW hclW hcW hown' hat HYY hbrW hb4W hcapW hcapM;refine hK.out _ _ hb5 (fun _=>?_);clear hK K;simp only [Act.put,List.setIfInBounds_toArray,List.set_cons_zero,List.set_cons_succ];refine tz 10 86 ?_;have k3':=hK'.three;have kf':=hK'.frozen 2;obtain ⟨k3a,k3b,k3c⟩:=k3';refine Zk 11 (fun K hK=>?_);go_simp;refine hK.out _ _ (hb5.setCell (by simp only;omega) _) (fun _=>?_);clear hK K;refine Zd ?_;have HK2:=Zh (hK'.set_ 2 (.slice A' (j+1) c'));have HV2:=Zh (hV'.far (Qaa w' (w.heap.size+2) 2 (.slice A' (j+1) c')) (.inr (hV'.ne (by omega))));have HA2:=Zh (hA'.far (Qaa w' (w.heap.size+2) 2 (.slice A' (j+1) c')) (.inr (hA'.ne (by omega))));have HY2:=Zh (HYN.out.far (Qaa w' (w.heap.size+2) 2 (.slice A' (j+1) c')) (by omega));clear hV' hA' hK' k3a k3b k3c kf'
            go_wp2_with fail
            go_roundw
            case rel=>exact ⟨(by have:=hb5.size;simp [World.setCell];omega),Qae,Qgg,Qgg,HV2.out,HA2.out,j+1,A',c',_,by omega,by go_num,HK2.out,by rw [HN.out];exact HY2.out⟩
            case measure=>simp [intOf];omega
          · go_simp
            with_reducible refine (HTC.out _ Qae).mono ?_
            rintro r w4 ⟨A2,c2,rfl,hrc,hb4⟩;have hbr4:Below wr.heap.size wr w4:=Zb Qae hb4;clear hb4
            go_wp2_with fail
            refine hK.out _ _ (hbr4.mono (by omega)) (fun _=>?_);clear hK K;refine wpAnyH_ready (rs:=[1,8]) (by kernel_rfl) (by simp) ?_;refine AllReadyH.cons (o:=_) rfl (fun K hK=>?_) (AllReadyH.cons (o:=_) rfl (fun K hK=>?_) AllReadyH.nil)
            · have k3a:=(hK0.below hbr4 hK0.lt).three
              obtain ⟨k3a,k3b,k3c⟩:=k3a;go_simp;refine hK.out _ _ (hbr4.mono (by omega)) (fun _=>?_);clear hK K k3a k3b k3c;refine Zk 8 (fun K hK=>?_);go_simp;refine hK.out _ _ (Below.alloc (hbr4.mono (by omega)) (by have:=hbr4.size;omega) _) (fun _=>?_);clear hK K;have hrc:Own w4 wr.heap.size 2 1 A2 n' c2 (Qad t.costs):=hrc;have hW:∃ W,W=w4.alloc (.cells #[.int .i64 t.ins,.int .i64 t.outs,.slice A2 n' c2] 143):=⟨_,rfl⟩;obtain ⟨W,hW⟩:=hW;rw [←hW];have hb4W:Below w4.heap.size w4 W:=by rw [hW];exact Qae
              have hrdW:Rds W 3 (some ⟨w4.heap.size,0,none⟩) 1 [.int .i64 t.ins,.int .i64 t.outs,.slice A2 n' c2]:=by rw [hW];exact (Blk.new w4 143 #[.int .i64 t.ins,.int .i64 t.outs,.slice A2 n' c2]).rds rfl
              clear hW;have hbrW:Below wr.heap.size wr W:=Zb hbr4 hb4W;have hyW:=hown.below hbrW;have hVW:=hVo.below hbrW;have hAW:=hAo.below hbrW;have hbW:Below (w.heap.size+2) wr W:=hbrW.mono (by omega);have hblW:Below w.heap.size w W:=Zb hbl hbrW;have hJW:=hJ.below hbrW hJ.lt;have hRW:=hR.below hbrW hR.lt;have hKW:=hK0.below hbrW hK0.lt;have hcW:=hrc.rds.rdI.below hb4W
              have hclW:∀ g,Qab A2=some g→w3.heap.size≤g∧g<W.heap.size∧Qab C3≠some g:=fun g hg=>by
               have h1:=hrc.lt g hg;refine ⟨by omega,Nat.lt_of_lt_of_le h1.2 hb4W.size,fun e=>?_⟩;have h2:=(hown.1.lt g e).2;omega
              have hcapW:=hrc.cap;have hcapM:=hrc.capMax;have hWsz:w3.heap.size≤W.heap.size:=by have:=hbrW.size;omega
              have HYY:=Zh hyW;have hownY:=hyW.1
              have HONE:=Zh (show ∀ u∈[Value.int .i64 t.ins,.int .i64 t.outs,.slice A2 n' c2],u.oneCell'=true from fun u hu=>by
               simp at hu
               rcases hu with rfl|rfl|rfl <;> rfl)
              clear hyW;refine Zk 9 (fun K hK=>?_);with_reducible refine Qal (some 85) rfl rfl (.tmp 77) (.tmp 84) 118 rfl 143 _ 3 40 Qhp underlying118 rfl (by omega) rfl rfl hownY hrdW HONE.out (by omega) (by omega) hWsz ?_
              intro A' c' w' hown' hg hat;have hb5:Below (w.heap.size+2) wr w':=Bel.grownOwn hbW hg (hownY.mono (by omega)) (by omega);have hb6:Below w.heap.size w w':=Bel.grownOwn hblW hg (hownY.mono (by omega)) (by omega);have hJ':=hJW.grown hg (hownY.ne (by omega));have hR':=hRW.grown hg (hownY.ne (by omega));have hK':=hKW.grown hg (hownY.ne (by omega));have hV':=hVW.far hg (Own.apart HLT.out hownY);have hA':=hAW.far hg (Own.apart HLA.out hownY);have HYN:=Zh (HYY.out.push hown' hg hat hcW hclW hcapW hcapM);clear hownY hrdW hbW hblW hJW hRW hKW hg hVW hAW hclW hcW hown' hat HYY hbrW hb4W hcapW hcapM;refine hK.out _ _ hb5 (fun _=>?_);clear hK K;simp only [Act.put,List.setIfInBounds_toArray,List.set_cons_zero,List.set_cons_succ];refine tz 10 86 ?_;have k3':=hK'.three;have kf':=hK'.frozen 2;obtain ⟨k3a,k3b,k3c⟩:=k3';refine Zk 11 (fun K hK=>?_);go_simp;refine hK.out _ _ (hb5.setCell (by simp only;omega) _) (fun _=>?_);clear hK K;refine Zd ?_;have HK2:=Zh (hK'.set_ 2 (.slice A' (j+1) c'));have HV2:=Zh (hV'.far (Qaa w' (w.heap.size+2) 2 (.slice A' (j+1) c')) (.inr (hV'.ne (by omega))));have HA2:=Zh (hA'.far (Qaa w' (w.heap.size+2) 2 (.slice A' (j+1) c')) (.inr (hA'.ne (by omega))));have HY2:=Zh (HYN.out.far (Qaa w' (w.heap.size+2) 2 (.slice A' (j+1) c')) (by omega));clear hV' hA' hK' k3a k3b k3c kf'
              go_wp2_with fail
              go_roundw
              case rel=>exact ⟨(by have:=hb5.size;simp [World.setCell];omega),Qae,Qgg,Qgg,HV2.out,HA2.out,j+1,A',c',_,by omega,by go_num,HK2.out,by rw [HN.out];exact HY2.out⟩
              case measure=>simp [intOf];omega
            · go_simp
              refine hK.out _ _ (Below.alloc (hbr4.mono (by omega)) (by have:=hbr4.size;omega) _) (fun _=>?_);clear hK K;have k3a:=fun o=>((hK0.below hbr4 hK0.lt).alloc o).three.1
              have k3b:=fun o=>((hK0.below hbr4 hK0.lt).alloc o).three.2.1
              have k3c:=fun o=>((hK0.below hbr4 hK0.lt).alloc o).three.2.2
              refine Zk 1 (fun K hK=>?_);go_simp;refine hK.out _ _ (Below.alloc (hbr4.mono (by omega)) (by have:=hbr4.size;omega) _) (fun _=>?_);clear hK K k3a k3b k3c;have hrc:Own w4 wr.heap.size 2 1 A2 n' c2 (Qad t.costs):=hrc;have hW:∃ W,W=w4.alloc (.cells #[.int .i64 t.ins,.int .i64 t.outs,.slice A2 n' c2] 143):=⟨_,rfl⟩;obtain ⟨W,hW⟩:=hW;rw [←hW];have hb4W:Below w4.heap.size w4 W:=by rw [hW];exact Qae
              have hrdW:Rds W 3 (some ⟨w4.heap.size,0,none⟩) 1 [.int .i64 t.ins,.int .i64 t.outs,.slice A2 n' c2]:=by rw [hW];exact (Blk.new w4 143 #[.int .i64 t.ins,.int .i64 t.outs,.slice A2 n' c2]).rds rfl
              clear hW;have hbrW:Below wr.heap.size wr W:=Zb hbr4 hb4W;have hyW:=hown.below hbrW;have hVW:=hVo.below hbrW;have hAW:=hAo.below hbrW;have hbW:Below (w.heap.size+2) wr W:=hbrW.mono (by omega);have hblW:Below w.heap.size w W:=Zb hbl hbrW;have hJW:=hJ.below hbrW hJ.lt;have hRW:=hR.below hbrW hR.lt;have hKW:=hK0.below hbrW hK0.lt;have hcW:=hrc.rds.rdI.below hb4W
              have hclW:∀ g,Qab A2=some g→w3.heap.size≤g∧g<W.heap.size∧Qab C3≠some g:=fun g hg=>by
               have h1:=hrc.lt g hg;refine ⟨by omega,Nat.lt_of_lt_of_le h1.2 hb4W.size,fun e=>?_⟩;have h2:=(hown.1.lt g e).2;omega
              have hcapW:=hrc.cap;have hcapM:=hrc.capMax;have hWsz:w3.heap.size≤W.heap.size:=by have:=hbrW.size;omega
              have HYY:=Zh hyW;have hownY:=hyW.1
              have HONE:=Zh (show ∀ u∈[Value.int .i64 t.ins,.int .i64 t.outs,.slice A2 n' c2],u.oneCell'=true from fun u hu=>by
               simp at hu
               rcases hu with rfl|rfl|rfl <;> rfl)
              clear hyW;refine Zk 9 (fun K hK=>?_);with_reducible refine Qal (some 85) rfl rfl (.tmp 77) (.tmp 84) 118 rfl 143 _ 3 40 Qhp underlying118 rfl (by omega) rfl rfl hownY hrdW HONE.out (by omega) (by omega) hWsz ?_
              intro A' c' w' hown' hg hat;have hb5:Below (w.heap.size+2) wr w':=Bel.grownOwn hbW hg (hownY.mono (by omega)) (by omega);have hb6:Below w.heap.size w w':=Bel.grownOwn hblW hg (hownY.mono (by omega)) (by omega);have hJ':=hJW.grown hg (hownY.ne (by omega));have hR':=hRW.grown hg (hownY.ne (by omega));have hK':=hKW.grown hg (hownY.ne (by omega));have hV':=hVW.far hg (Own.apart HLT.out hownY);have hA':=hAW.far hg (Own.apart HLA.out hownY);have HYN:=Zh (HYY.out.push hown' hg hat hcW hclW hcapW hcapM);clear hownY hrdW hbW hblW hJW hRW hKW hg hVW hAW hclW hcW hown' hat HYY hbrW hb4W hcapW hcapM;refine hK.out _ _ hb5 (fun _=>?_);clear hK K;simp only [Act.put,List.setIfInBounds_toArray,List.set_cons_zero,List.set_cons_succ];refine tz 10 86 ?_;have k3':=hK'.three;have kf':=hK'.frozen 2;obtain ⟨k3a,k3b,k3c⟩:=k3';refine Zk 11 (fun K hK=>?_);go_simp;refine hK.out _ _ (hb5.setCell (by simp only;omega) _) (fun _=>?_);clear hK K;refine Zd ?_;have HK2:=Zh (hK'.set_ 2 (.slice A' (j+1) c'));have HV2:=Zh (hV'.far (Qaa w' (w.heap.size+2) 2 (.slice A' (j+1) c')) (.inr (hV'.ne (by omega))));have HA2:=Zh (hA'.far (Qaa w' (w.heap.size+2) 2 (.slice A' (j+1) c')) (.inr (hA'.ne (by omega))));have HY2:=Zh (HYN.out.far (Qaa w' (w.heap.size+2) 2 (.slice A' (j+1) c')) (by omega));clear hV' hA' hK' k3a k3b k3c kf'
              go_wp2_with fail
              go_roundw
              case rel=>exact ⟨(by have:=hb5.size;simp [World.setCell];omega),Qae,Qgg,Qgg,HV2.out,HA2.out,j+1,A',c',_,by omega,by go_num,HK2.out,by rw [HN.out];exact HY2.out⟩
              case measure=>simp [intOf];omega
        · obtain rfl:k=j:=by omega
          rw [List.take_of_length_le (by rw [HY.out.1];exact Zn _)] at hown;obtain ⟨q0,q1,q2⟩:=hK0.three;have f0:=hR.frozen 0;have f1:=hR.frozen 1;have f2:=hR.frozen 2;obtain ⟨r0,r1,r2⟩:=hR.three;have HV5:=Zh ((((hVo.far (Qaa wr (w.heap.size+1) 0 (.slice A1 n c1)) (.inr (hVo.ne (by omega)))).far (Qaa _ (w.heap.size+1) 1 (.slice A3' m c3')) (.inr (hVo.ne (by omega)))).far (Qaa _ (w.heap.size+1) 2 (.slice C3 k e3)) (.inr (hVo.ne (by omega)))).rds.rd3);have HA5:=Zh ((((hAo.far (Qaa wr (w.heap.size+1) 0 (.slice A1 n c1)) (.inr (hAo.ne (by omega)))).far (Qaa _ (w.heap.size+1) 1 (.slice A3' m c3')) (.inr (hAo.ne (by omega)))).far (Qaa _ (w.heap.size+1) 2 (.slice C3 k e3)) (.inr (hAo.ne (by omega)))).rds.rd3);have HY5:=Zh ((((hown.far (Qaa wr (w.heap.size+1) 0 (.slice A1 n c1)) (by omega)).far (Qaa _ (w.heap.size+1) 1 (.slice A3' m c3')) (by omega)).far (Qaa _ (w.heap.size+1) 2 (.slice C3 k e3)) (by omega)).rdY);clear hVo hAo hown j0 j1 hR
          go_wp2_with fail
          refine bodyPost_ret (v:=.agg #[.slice A1 n c1,.slice A3' m c3',.slice C3 k e3]) (by simp [results,results47,go_sem,r0,r1,r2]) rfl ?_;exact ⟨A1,A3',C3,c1,c3',e3,rfl,⟨HV5.out,HA5.out,HY5.out⟩,Qae⟩
end Go.Proofs.YthoagdpakddbdaaGreatDoor
