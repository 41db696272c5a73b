/- Parts of the proof: Nt10, G1, G2, Go. -/
import Derived.Test.YtdheeddnkdhfeaaGreatDoorH5
namespace Go.Proofs.YtdheeddnkdhfeaaGreatDoor
open Go.RowKit Go.Proofs.Tryz
attribute [local go_sem ↓] Go.wp_at_zero Go.wp_at_succ
theorem infoVert:(Tryz.prog.info? 243).map (fun i=>(i.zero,i.size,i.bytes))=some (some (.agg #[.int .i64 0,.int .i64 0,.int .i64 0]),3,24):=by kernel_rfl
theorem infoArc:(Tryz.prog.info? 186).map (fun i=>(i.zero,i.size,i.bytes))=some (some (.agg #[.int .i64 0,.int .i64 0,.int .i64 0]),3,24):=by kernel_rfl
theorem Qpk:(Tryz.prog.info? 193).map (fun i=>(i.zero,i.size,i.bytes))=some (some (.agg #[.int .i64 0,.int .i64 0,.slice none 0 0]),3,40):=by kernel_rfl
theorem Qlf {L:List Tri}{k:Nat}{p:Tri} (h:L[k]?=some p):Qaw (L.take (k+1))=Qaw (L.take k) ++[.int .i64 p.1,.int .i64 p.2.1,.int .i64 p.2.2]:=by have hlt:=(Zs h).1;have e:=(Zs h).2;rw [Yf hlt,e,Qei];rfl
theorem Qdw (x y z:Int):∀ u∈[Value.int .i64 x,Value.int .i64 y,Value.int .i64 z],u.oneCell'=true:=by intro u hu;simp at hu;rcases hu with rfl|rfl|rfl <;> rfl
theorem Own.apart {w:World}{B' s' n' c':Nat}{e':TypeId}{A A':Option Addr}{xs':List Value}(h:∀ g,Qab A=some g→g<B')(h':Own w B' e' s' A' n' c' xs'):Qab A=none∨Qab A≠Qab A':=by
 cases hA:Qab A with
 | none=>exact .inl rfl
 | some g =>refine .inr (fun e=>?_);have:=(h'.lt g e.symm).1;have:=h g hA;omega
--BODY
set_option maxHeartbeats 1000000 in
set_option maxRecDepth 20000 in
theorem Qyl (A B C:Option Addr)(n m k c d e:Nat)(N:Qam)(w:World)(h:Qbz w A B C n m k N)(hn:n≤1000000)(hm:m≤1000000)(hk:k≤1000000)(hc:∀ t∈N.ts,t.costs.length≤1000000) :
 Calls prog 88 #[.agg #[.slice A n c,.slice B m d,.slice C k e]] w fun r w'=>∃ A' B' C' c' d' e',r=.returned (.agg #[.slice A' n c',.slice B' m d',.slice C' k e'])∧Qbz w' A' B' C' n m k N∧Below w.heap.size w w':=by
 have HV:=Zh h.1;have HA:=Zh h.2.1;have HY:=Zh h.2.2;have HC:=Zh hc;clear h hc;go_enter func88,ntmps88
 go_wp2_with fail
 (refine Qaj ?_;intro w1 hw1);have hb1:Below w.heap.size w w1:=by rw [hw1];exact Qah
 have hJ:Blk w1 w.heap.size 26 #[.slice A n c,.slice B m d,.slice C k e]:=by rw [hw1];exact Qbi
 have hR:Blk w1 (w.heap.size+1) 177 #[.slice none 0 0,.slice none 0 0,.slice none 0 0]:=by rw [hw1];exact Qbi
 have hK0:Blk w1 (w.heap.size+2) 177 #[.slice none 0 0,.slice none 0 0,.slice none 0 0]:=by rw [hw1];exact Qbi
 clear hw1;go_loopw [4] (fun i W=>Below w.heap.size w W∧Blk W w.heap.size 26 #[.slice A n c,.slice B m d,.slice C k e]∧Blk W (w.heap.size+1) 177 #[.slice none 0 0,.slice none 0 0,.slice none 0 0]∧∃ (j:Nat) (A3:Option Addr) (c3:Nat),j≤n∧i=.int .i64 j∧Blk W (w.heap.size+2) 177 #[.slice A3 j c3,.slice none 0 0,.slice none 0 0]∧Own W (w.heap.size+3) 243 3 A3 j c3 (Qaw (N.vs.take j))) (fun i _=>n-(intOf i).toNat)
 case atStart=>exact ⟨hb1,hJ,hR,0,none,0,Nat.zero_le _,rfl,hK0,by simpa [Qaw] using Own.nil _ _ _ _⟩
 case round =>
  clear hb1 hJ hR hK0;obtain ⟨hbl,hJ,hR,j,A3,c3,hj,rfl,hK0,hown⟩:=hrel;obtain ⟨j0,j1,j2⟩:=hJ.three;obtain ⟨k0,k1,k2⟩:=hK0.three;by_cases hlt:j<n
  · obtain ⟨sb,so,x,y,z,rfl,hx,cx,cy,cz⟩:=HV.out.at_ hlt;have HN:=Zh (Qlf hx);have dx:=Zc hbl (Zn _) cx;have dy:=Zc hbl (Zn _) cy;have dz:=Zc hbl (Zn _) cz
    have HSX:=Zh (show ∀ V,Below (w.heap.size+2) wr V→V.cell? ⟨w.heap.size,0,none⟩=some (.slice (some ⟨sb,so,none⟩) n c)∧V.cell? ⟨sb,so+j*3,none⟩=some (.int .i64 x)∧V.cell? ⟨sb,so+j*3+1,none⟩=some (.int .i64 y)∧V.cell? ⟨sb,so+j*3+2,none⟩=some (.int .i64 z) from
     fun V hb=>⟨(hb.cell (by simp only;omega)).trans j0,(hb.cell (by have:=Qak cx;simp only at this ⊢;omega)).trans dx,(hb.cell (by have:=Qak cx;simp only at this ⊢;omega)).trans dy,(hb.cell (by have:=Qak cx;simp only at this ⊢;omega)).trans dz⟩)
    (have i3:0≤(j:Int):=by omega);(have i4:(j:Int)<n:=by omega);(have hsz:w.heap.size+3≤wr.heap.size:=by have:=hK0.lt;omega);clear hx cx cy cz dx dy dz j1 j2 k0 k1 k2;(go_wp2_with fail);refine wp_region_held_drew (S:=fun V=>Below (w.heap.size+2) wr V) (by kernel_rfl) (Zr _ _).drew (fun _=>?_);refine tz 0 14 ?_;refine tzd 2 16 ?_;refine tzd 6 20 ?_;refine tzd 10 24 ?_;refine tzd 14 28 ?_;refine tzb 18 32 ?_;refine tz 20 34 ?_;refine wpAnyH_ready (rs:=[1,21]) (by kernel_rfl) (by simp) ?_;refine AllReadyH.cons (o:=_) rfl (fun K hK=>?_) (AllReadyH.cons (o:=_) rfl (fun K hK=>?_) AllReadyH.nil)
    focus
     have k3a:=hK0.three;obtain ⟨k3a,k3b,k3c⟩:=k3a;go_simp;refine hK.out _ _ (Zr _ _).drew (fun _=>?_);clear hK K k3a k3b k3c;refine Zk 21 (fun K hK=>?_);go_simp;refine hK.out _ _ (((Zr _ _).alloc (by omega) _).drew) (fun _=>?_);clear hK K
    rotate_left
    focus
     go_simp;refine hK.out _ _ (((Zr _ _).alloc (by omega) _).drew) (fun _=>?_);clear hK K;have k3a:=fun o=>(hK0.alloc o).three.1
     have k3b:=fun o=>(hK0.alloc o).three.2.1
     refine Zk 1 (fun K hK=>?_);go_simp;refine hK.out _ _ (((Zr _ _).alloc (by omega) _).drew) (fun _=>?_);clear hK K k3a k3b
    all_goals
     have hW:∃ W,W=(wr.alloc (.cells #[.int .i64 x,.int .i64 y,.int .i64 z] 243)).drew:=⟨_,rfl⟩;obtain ⟨W,hW⟩:=hW;rw [←hW];have hownW:Own W (w.heap.size+3) 243 3 A3 j c3 (Qaw (N.vs.take j)):=by rw [hW];exact (by repeat (first|assumption|apply Own.drewN|apply Own.drew|apply Own.alloc))
     skip
     have hrdW:Rds W 3 (some ⟨wr.heap.size,0,none⟩) 1 [.int .i64 x,.int .i64 y,.int .i64 z]:=by rw [hW];exact (Blk.new wr 243 #[.int .i64 x,.int .i64 y,.int .i64 z]).rds rfl
     have hbW:Below (w.heap.size+2) wr W:=by rw [hW];exact ((Zr _ _).alloc (by omega) _).drew
     have hblW:Below w.heap.size w W:=by rw [hW];exact Qah
     have hJW:Blk W w.heap.size 26 #[.slice (some ⟨sb,so,none⟩) n c,.slice B m d,.slice C k e]:=by rw [hW];exact Qnd
     have hRW:Blk W (w.heap.size+1) 177 #[.slice none 0 0,.slice none 0 0,.slice none 0 0]:=by rw [hW];exact Qnd
     have hKW:Blk W (w.heap.size+2) 177 #[.slice A3 j c3,.slice none 0 0,.slice none 0 0]:=by rw [hW];exact Qnd
     have hWsz:(w.heap.size+3)≤W.heap.size:=by rw [hW];simp;omega
     clear hW;refine Zk 22 (fun K hK=>?_);with_reducible refine Qax (some 36) rfl rfl (.tmp 15) (.tmp 35) 173 rfl 243 _ 3 24 infoVert underlying173 rfl (by omega) rfl rfl hownW hrdW (Qdw x y z) (by omega) (by omega) hWsz ?_
     intro A' c' w' hown' hg _;have hb5:Below (w.heap.size+2) wr w':=Zo hbW hg (hownW.mono (by omega)) (by omega);have hb6:Below w.heap.size w w':=Zo hblW hg (hownW.mono (by omega)) (by omega);have hJ':=hJW.grown hg (hownW.ne (by omega));have hR':=hRW.grown hg (hownW.ne (by omega));have hK':=hKW.grown hg (hownW.ne (by omega))
     skip
     clear hownW hrdW hbW hblW hJW hRW hKW hg;refine hK.out _ _ hb5 (fun _=>?_);clear hK K;simp only [Act.put,Yi,Yj,Yk];refine tz 23 37 ?_;have k3':=hK'.three;have kf':=hK'.frozen 0;obtain ⟨k3a,k3b,k3c⟩:=k3';refine Zk 24 (fun K hK=>?_);go_simp;refine hK.out _ _ (hb5.setCell (by simp only;omega) _) (fun _=>?_);clear hK K;refine Zd ?_;have HO:=Zh (hown'.far (Qad w' (w.heap.size+2) 0 (.slice A' (j+1) c')) (.inr (hown'.ne (by omega))));have HK2:=Zh (hK'.set_ 0 (.slice A' (j+1) c'))
     skip
     clear hown' hK' k3a k3b k3c kf'
     go_wp2_with fail
     go_roundw
     case rel=>exact ⟨Qah,Qnd,Qnd,j+1,A',c',by omega,by go_num,HK2.out,by rw [HN.out];exact HO.out⟩
     case measure=>simp [intOf];omega
  · (obtain rfl:n=j:=by omega);(obtain ⟨A1,rfl⟩:=Zx A3;obtain ⟨c1,rfl⟩:=Zx c3;rw [Ye (by rw [HV.out.1];exact Zn _)] at hown;obtain ⟨w2,hw2⟩:=Zx wr;subst hw2;have hz2:w.heap.size+3≤w2.heap.size:=by have:=hK0.lt;omega);have HLT:=Zh (fun g hg=>(hown.lt g hg).2);(go_wp2_with fail);(go_loopw [5] (fun i W=>w2.heap.size≤W.heap.size∧Below w.heap.size w W∧Blk W w.heap.size 26 #[.slice A n c,.slice B m d,.slice C k e]∧Blk W (w.heap.size+1) 177 #[.slice none 0 0,.slice none 0 0,.slice none 0 0]∧Own W (w.heap.size+3) 243 3 A1 n c1 (Qaw N.vs)∧∃ (j:Nat) (A3:Option Addr) (c3:Nat),j≤m∧i=.int .i64 j∧Blk W (w.heap.size+2) 177 #[.slice A1 n c1,.slice A3 j c3,.slice none 0 0]∧Own W w2.heap.size 186 3 A3 j c3 (Qaw (N.ar.take j))) (fun i _=>m-(intOf i).toNat));case atStart=>exact ⟨Zn _,hbl,hJ,hR,hown,0,none,0,Nat.zero_le _,rfl,hK0,by simpa [Qaw] using Own.nil _ _ _ _⟩
    case round =>
     clear hbl hJ hR hown hK0 j0 j1 j2 k0 k1 k2 hj;obtain ⟨hszr,hbl,hJ,hR,hVo,j,A3,c3,hj,rfl,hK0,hown⟩:=hrel;obtain ⟨j0,j1,j2⟩:=hJ.three;obtain ⟨k0,k1,k2⟩:=hK0.three;by_cases hlt:j<m
     · obtain ⟨sb,so,x,y,z,rfl,hx,cx,cy,cz⟩:=HA.out.at_ hlt;have HN:=Zh (Qlf hx);have dx:=Zc hbl (Zn _) cx;have dy:=Zc hbl (Zn _) cy;have dz:=Zc hbl (Zn _) cz
       have HSX:=Zh (show ∀ V,Below (w.heap.size+2) wr V→V.cell? ⟨w.heap.size,1,none⟩=some (.slice (some ⟨sb,so,none⟩) m d)∧V.cell? ⟨sb,so+j*3,none⟩=some (.int .i64 x)∧V.cell? ⟨sb,so+j*3+1,none⟩=some (.int .i64 y)∧V.cell? ⟨sb,so+j*3+2,none⟩=some (.int .i64 z) from
        fun V hb=>⟨(hb.cell (by simp only;omega)).trans j1,(hb.cell (by have:=Qak cx;simp only at this ⊢;omega)).trans dx,(hb.cell (by have:=Qak cx;simp only at this ⊢;omega)).trans dy,(hb.cell (by have:=Qak cx;simp only at this ⊢;omega)).trans dz⟩)
       (have i3:0≤(j:Int):=by omega);(have i4:(j:Int)<m:=by omega);have hsz:w2.heap.size≤wr.heap.size:=hszr;clear hx cx cy cz dx dy dz j0 j2 k0 k1 k2;(go_wp2_with fail);refine wp_region_held_drew (S:=fun V=>Below (w.heap.size+2) wr V) (by kernel_rfl) (Zr _ _).drew (fun _=>?_);refine tz 0 45 ?_;refine tzd 2 47 ?_;refine tzd 6 51 ?_;refine tzd 10 55 ?_;refine tzd 14 59 ?_;refine tzb 18 63 ?_;refine tz 20 65 ?_;refine wpAnyH_ready (rs:=[1,21]) (by kernel_rfl) (by simp) ?_;refine AllReadyH.cons (o:=_) rfl (fun K hK=>?_) (AllReadyH.cons (o:=_) rfl (fun K hK=>?_) AllReadyH.nil)
       focus
        have k3a:=hK0.three;obtain ⟨k3a,k3b,k3c⟩:=k3a;go_simp;refine hK.out _ _ (Zr _ _).drew (fun _=>?_);clear hK K k3a k3b k3c;refine Zk 21 (fun K hK=>?_);go_simp;refine hK.out _ _ (((Zr _ _).alloc (by omega) _).drew) (fun _=>?_);clear hK K
       rotate_left
       focus
        go_simp;refine hK.out _ _ (((Zr _ _).alloc (by omega) _).drew) (fun _=>?_);clear hK K;have k3a:=fun o=>(hK0.alloc o).three.1
        have k3b:=fun o=>(hK0.alloc o).three.2.1
        refine Zk 1 (fun K hK=>?_);go_simp;refine hK.out _ _ (((Zr _ _).alloc (by omega) _).drew) (fun _=>?_);clear hK K k3a k3b
       all_goals
        have hW:∃ W,W=(wr.alloc (.cells #[.int .i64 x,.int .i64 y,.int .i64 z] 186)).drew:=⟨_,rfl⟩;obtain ⟨W,hW⟩:=hW;rw [←hW];have hownW:Own W w2.heap.size 186 3 A3 j c3 (Qaw (N.ar.take j)):=by rw [hW];exact (by repeat (first|assumption|apply Own.drewN|apply Own.drew|apply Own.alloc))
        have hVW:Own W (w.heap.size+3) 243 3 A1 n c1 (Qaw N.vs):=by rw [hW];exact (by repeat (first|assumption|apply Own.drewN|apply Own.drew|apply Own.alloc))
        have hrdW:Rds W 3 (some ⟨wr.heap.size,0,none⟩) 1 [.int .i64 x,.int .i64 y,.int .i64 z]:=by rw [hW];exact (Blk.new wr 186 #[.int .i64 x,.int .i64 y,.int .i64 z]).rds rfl
        have hbW:Below (w.heap.size+2) wr W:=by rw [hW];exact ((Zr _ _).alloc (by omega) _).drew
        have hblW:Below w.heap.size w W:=by rw [hW];exact Qah
        have hJW:Blk W w.heap.size 26 #[.slice A n c,.slice (some ⟨sb,so,none⟩) m d,.slice C k e]:=by rw [hW];exact Qnd
        have hRW:Blk W (w.heap.size+1) 177 #[.slice none 0 0,.slice none 0 0,.slice none 0 0]:=by rw [hW];exact Qnd
        have hKW:Blk W (w.heap.size+2) 177 #[.slice A1 n c1,.slice A3 j c3,.slice none 0 0]:=by rw [hW];exact Qnd
        have hWsz:w2.heap.size≤W.heap.size:=by rw [hW];simp;omega
        clear hW;refine Zk 22 (fun K hK=>?_);with_reducible refine Qax (some 67) rfl rfl (.tmp 46) (.tmp 66) 174 rfl 186 _ 3 24 infoArc underlying174 rfl (by omega) rfl rfl hownW hrdW (Qdw x y z) (by omega) (by omega) hWsz ?_
        intro A' c' w' hown' hg _;have hb5:Below (w.heap.size+2) wr w':=Zo hbW hg (hownW.mono (by omega)) (by omega);have hb6:Below w.heap.size w w':=Zo hblW hg (hownW.mono (by omega)) (by omega);have hJ':=hJW.grown hg (hownW.ne (by omega));have hR':=hRW.grown hg (hownW.ne (by omega));have hK':=hKW.grown hg (hownW.ne (by omega));have hV':=hVW.far hg (Own.apart HLT.out hownW);clear hVW;clear hownW hrdW hbW hblW hJW hRW hKW hg;refine hK.out _ _ hb5 (fun _=>?_);clear hK K;simp only [Act.put,Yi,Yj,Yk];refine tz 23 68 ?_;have k3':=hK'.three;have kf':=hK'.frozen 1;obtain ⟨k3a,k3b,k3c⟩:=k3';refine Zk 24 (fun K hK=>?_);go_simp;refine hK.out _ _ (hb5.setCell (by simp only;omega) _) (fun _=>?_);clear hK K;refine Zd ?_;have HO:=Zh (hown'.far (Qad w' (w.heap.size+2) 1 (.slice A' (j+1) c')) (.inr (hown'.ne (by omega))));have HK2:=Zh (hK'.set_ 1 (.slice A' (j+1) c'));have HV2:=Zh (hV'.far (Qad w' (w.heap.size+2) 1 (.slice A' (j+1) c')) (.inr (hV'.ne (by omega))));clear hV';clear hown' hK' k3a k3b k3c kf'
        go_wp2_with fail
        go_roundw
        case rel=>exact ⟨(by have:=hb5.size;simp [World.setCell];omega),Qah,Qnd,Qnd,HV2.out,j+1,A',c',by omega,by go_num,HK2.out,by rw [HN.out];exact HO.out⟩
        case measure=>simp [intOf];omega
     · (obtain rfl:m=j:=by omega);obtain ⟨A3',rfl⟩:=Zx A3;obtain ⟨c3',rfl⟩:=Zx c3;rw [Ye (by rw [HA.out.1];exact Zn _)] at hown;obtain ⟨w3,hw3⟩:=Zx wr;subst hw3;have HLV:=HLT;clear HLT;have HLT:=Zh (show ∀ g,Qab A1=some g→g<w3.heap.size from fun g hg=>by have:=HLV.out g hg;omega);(have HLA:=Zh (fun g hg=>(hown.lt g hg).2);clear HLV;have hz3:w.heap.size+3≤w3.heap.size:=by omega);(go_wp2_with fail);(go_loopw [6] (fun i W=>w3.heap.size≤W.heap.size∧Below w.heap.size w W∧Blk W w.heap.size 26 #[.slice A n c,.slice B m d,.slice C k e]∧Blk W (w.heap.size+1) 177 #[.slice none 0 0,.slice none 0 0,.slice none 0 0]∧Own W (w.heap.size+3) 243 3 A1 n c1 (Qaw N.vs)∧Own W w2.heap.size 186 3 A3' m c3' (Qaw N.ar)∧∃ (j:Nat) (C3:Option Addr) (e3:Nat) (xs:List Value),j≤k∧i=.int .i64 j∧Blk W (w.heap.size+2) 177 #[.slice A1 n c1,.slice A3' m c3',.slice C3 j e3]∧YwO W w3.heap.size C3 j e3 xs (N.ts.take j)) (fun i _=>k-(intOf i).toNat));case atStart=>exact ⟨Zn _,hbl,hJ,hR,hVo,hown,0,none,0,[],Nat.zero_le _,rfl,hK0,by simpa using YwO.nil _ _⟩
       case round =>
        clear hbl hJ hR hown hK0 j0 j1 j2 k0 k1 k2 hj hVo hszr;obtain ⟨hszr,hbl,hJ,hR,hVo,hAo,j,C3,e3,xs,hj,rfl,hK0,hown⟩:=hrel;obtain ⟨j0,j1,j2⟩:=hJ.three;by_cases hlt:j<k
        · obtain ⟨sb,so,t,rfl,ht,cx,cy,A',n',c',cz,hr,hc1',hc2'⟩:=HY.out.at_ hlt
          have HN:=Zh (show N.ts.take (j+1)=N.ts.take j ++[t] by
           rw [Yf (Zs ht).1,(Zs ht).2])
          have HTC:=Zh (show ∀ V,Below w.heap.size w V→Calls prog 139 #[.agg #[.int .i64 t.ins,.int .i64 t.outs,.slice A' n' c']] V (fun e w'=>∃ A2 c2,e=.returned (.agg #[.int .i64 t.ins,.int .i64 t.outs,.slice A2 n' c2])∧Own w' V.heap.size 2 1 A2 n' c2 (Qag t.costs)∧Below V.heap.size V w') from
           fun V hV=>Qzj A' n' c' t V (hr.below hV) (by have:=HC.out t (Zm ht);rw [hr.1] at this;exact this))
          have dx:=Zc hbl (Zn _) cx;have dy:=Zc hbl (Zn _) cy;have dz:=Zc hbl (Zn _) cz
          have HSX:=Zh (show ∀ V,Below (w.heap.size+2) wr V→V.cell? ⟨w.heap.size,2,none⟩=some (.slice (some ⟨sb,so,none⟩) k e)∧V.cell? ⟨sb,so+j*3,none⟩=some (.int .i64 t.ins)∧V.cell? ⟨sb,so+j*3+1,none⟩=some (.int .i64 t.outs)∧V.cell? ⟨sb,so+j*3+2,none⟩=some (.slice A' n' c') from
           fun V hb=>⟨(hb.cell (by simp only;omega)).trans j2,(hb.cell (by have:=Qak cx;simp only at this ⊢;omega)).trans dx,(hb.cell (by have:=Qak cx;simp only at this ⊢;omega)).trans dy,(hb.cell (by have:=Qak cx;simp only at this ⊢;omega)).trans dz⟩)
          (have i3:0≤(j:Int):=by omega);(have i4:(j:Int)<k:=by omega);have hsz:w3.heap.size≤wr.heap.size:=hszr;clear hr ht cx cy cz dx dy dz j0 j1 hc1' hc2';(go_wp2_with fail);refine wp_region_held_drew (S:=fun V=>Below (w.heap.size+2) wr V) (by kernel_rfl) (Zr _ _).drew (fun _=>?_);refine tz 0 76 ?_;refine tzd 2 78 ?_;refine tz 6 82 ?_;refine wpAnyH_ready (rs:=[1,7]) (by kernel_rfl) (by simp) ?_;refine AllReadyH.cons (o:=_) rfl (fun K hK=>?_) (AllReadyH.cons (o:=_) rfl (fun K hK=>?_) AllReadyH.nil)
          focus
           have k3a:=hK0.three;obtain ⟨k3a,k3b,k3c⟩:=k3a;go_simp;refine hK.out _ _ (Zr _ _).drew (fun _=>?_);clear hK K k3a k3b k3c;refine Zk 7 (fun K hK=>?_);go_simp;with_reducible refine (HTC.out _ Qah).mono ?_
           rintro r w4 ⟨A2,c2,rfl,hrc,hb4⟩;have hbr4:Below wr.heap.size wr w4:=Zb Qah hb4;clear hb4
           go_wp2_with fail
           refine hK.out _ _ (hbr4.mono (by omega)) (fun _=>?_);clear hK K;refine Zk 8 (fun K hK=>?_);go_simp;refine hK.out _ _ (Below.alloc (hbr4.mono (by omega)) (by have:=hbr4.size;omega) _) (fun _=>?_);clear hK K
          rotate_left
          focus
           go_simp;with_reducible refine (HTC.out _ Qah).mono ?_
           rintro r w4 ⟨A2,c2,rfl,hrc,hb4⟩;have hbr4:Below wr.heap.size wr w4:=Zb Qah hb4;clear hb4
           go_wp2_with fail
           refine hK.out _ _ (hbr4.mono (by omega)) (fun _=>?_);clear hK K;refine wpAnyH_ready (rs:=[1,8]) (by kernel_rfl) (by simp) ?_;refine AllReadyH.cons (o:=_) rfl (fun K hK=>?_) (AllReadyH.cons (o:=_) rfl (fun K hK=>?_) AllReadyH.nil)
           focus
            have k3a:=(hK0.below hbr4 hK0.lt).three;obtain ⟨k3a,k3b,k3c⟩:=k3a;go_simp;refine hK.out _ _ (hbr4.mono (by omega)) (fun _=>?_);clear hK K k3a k3b k3c;refine Zk 8 (fun K hK=>?_);go_simp;refine hK.out _ _ (Below.alloc (hbr4.mono (by omega)) (by have:=hbr4.size;omega) _) (fun _=>?_);clear hK K
           rotate_left
           focus
            go_simp;refine hK.out _ _ (Below.alloc (hbr4.mono (by omega)) (by have:=hbr4.size;omega) _) (fun _=>?_);clear hK K;have k3a:=fun o=>((hK0.below hbr4 hK0.lt).alloc o).three.1
            have k3b:=fun o=>((hK0.below hbr4 hK0.lt).alloc o).three.2.1
            have k3c:=fun o=>((hK0.below hbr4 hK0.lt).alloc o).three.2.2
            refine Zk 1 (fun K hK=>?_);go_simp;refine hK.out _ _ (Below.alloc (hbr4.mono (by omega)) (by have:=hbr4.size;omega) _) (fun _=>?_);clear hK K k3a k3b k3c
          all_goals
           have hrc:Own w4 wr.heap.size 2 1 A2 n' c2 (Qag t.costs):=hrc;have hW:∃ W,W=w4.alloc (.cells #[.int .i64 t.ins,.int .i64 t.outs,.slice A2 n' c2] 193):=⟨_,rfl⟩;obtain ⟨W,hW⟩:=hW;rw [←hW];have hb4W:Below w4.heap.size w4 W:=by rw [hW];exact Qah
           have hrdW:Rds W 3 (some ⟨w4.heap.size,0,none⟩) 1 [.int .i64 t.ins,.int .i64 t.outs,.slice A2 n' c2]:=by rw [hW];exact (Blk.new w4 193 #[.int .i64 t.ins,.int .i64 t.outs,.slice A2 n' c2]).rds rfl
           clear hW;have hbrW:Below wr.heap.size wr W:=Zb hbr4 hb4W;have hyW:=hown.below hbrW;have hVW:=hVo.below hbrW;have hAW:=hAo.below hbrW;have hbW:Below (w.heap.size+2) wr W:=hbrW.mono (by omega);have hblW:Below w.heap.size w W:=Zb hbl hbrW;have hJW:=hJ.below hbrW hJ.lt;have hRW:=hR.below hbrW hR.lt;have hKW:=hK0.below hbrW hK0.lt;have hcW:=hrc.rds.rdI.below hb4W
           have hclW:∀ g,Qab A2=some g→w3.heap.size≤g∧g<W.heap.size∧Qab C3≠some g:=fun g hg=>by
            have h1:=hrc.lt g hg;refine ⟨by omega,Yu h1.2 hb4W.size,fun e=>?_⟩;have h2:=(hown.1.lt g e).2;omega
           have hcapW:=hrc.cap;have hcapM:=hrc.capMax;have hWsz:w3.heap.size≤W.heap.size:=by have:=hbrW.size;omega
           have HYY:=Zh hyW;have hownY:=hyW.1
           have HONE:=Zh (show ∀ u∈[Value.int .i64 t.ins,.int .i64 t.outs,.slice A2 n' c2],u.oneCell'=true from fun u hu=>by
            simp at hu
            rcases hu with rfl|rfl|rfl <;> rfl)
           clear hyW;refine Zk 9 (fun K hK=>?_);with_reducible refine Qax (some 85) rfl rfl (.tmp 77) (.tmp 84) 175 rfl 193 _ 3 40 Qpk underlying175 rfl (by omega) rfl rfl hownY hrdW HONE.out (by omega) (by omega) hWsz ?_
           intro A' c' w' hown' hg hat;have hb5:Below (w.heap.size+2) wr w':=Zo hbW hg (hownY.mono (by omega)) (by omega);have hb6:Below w.heap.size w w':=Zo hblW hg (hownY.mono (by omega)) (by omega);have hJ':=hJW.grown hg (hownY.ne (by omega));have hR':=hRW.grown hg (hownY.ne (by omega));have hK':=hKW.grown hg (hownY.ne (by omega));have hV':=hVW.far hg (Own.apart HLT.out hownY);have hA':=hAW.far hg (Own.apart HLA.out hownY);have HYN:=Zh (HYY.out.push hown' hg hat hcW hclW hcapW hcapM);clear hownY hrdW hbW hblW hJW hRW hKW hg hVW hAW hclW hcW hown' hat HYY hbrW hb4W hcapW hcapM;refine hK.out _ _ hb5 (fun _=>?_);clear hK K;simp only [Act.put,Yi,Yj,Yk];refine tz 10 86 ?_;have k3':=hK'.three;have kf':=hK'.frozen 2;obtain ⟨k3a,k3b,k3c⟩:=k3';refine Zk 11 (fun K hK=>?_);go_simp;refine hK.out _ _ (hb5.setCell (by simp only;omega) _) (fun _=>?_);clear hK K;refine Zd ?_;have HK2:=Zh (hK'.set_ 2 (.slice A' (j+1) c'));have HV2:=Zh (hV'.far (Qad w' (w.heap.size+2) 2 (.slice A' (j+1) c')) (.inr (hV'.ne (by omega))));have HA2:=Zh (hA'.far (Qad w' (w.heap.size+2) 2 (.slice A' (j+1) c')) (.inr (hA'.ne (by omega))));have HY2:=Zh (HYN.out.far (Qad w' (w.heap.size+2) 2 (.slice A' (j+1) c')) (by omega));clear hV' hA' hK' k3a k3b k3c kf'
           go_wp2_with fail
           go_roundw
           case rel=>exact ⟨(by have:=hb5.size;simp [World.setCell];omega),Qah,Qnd,Qnd,HV2.out,HA2.out,j+1,A',c',_,by omega,by go_num,HK2.out,by rw [HN.out];exact HY2.out⟩
           case measure=>simp [intOf];omega
        {(obtain rfl:k=j:=by omega);rw [Ye (by rw [HY.out.1];exact Zn _)] at hown;obtain ⟨q0,q1,q2⟩:=hK0.three;have f0:=hR.frozen 0;have f1:=hR.frozen 1;have f2:=hR.frozen 2;obtain ⟨r0,r1,r2⟩:=hR.three;have HV5:=Zh ((((hVo.far (Qad wr (w.heap.size+1) 0 (.slice A1 n c1)) (.inr (hVo.ne (by omega)))).far (Qad _ (w.heap.size+1) 1 (.slice A3' m c3')) (.inr (hVo.ne (by omega)))).far (Qad _ (w.heap.size+1) 2 (.slice C3 k e3)) (.inr (hVo.ne (by omega)))).rds.rd3);have HA5:=Zh ((((hAo.far (Qad wr (w.heap.size+1) 0 (.slice A1 n c1)) (.inr (hAo.ne (by omega)))).far (Qad _ (w.heap.size+1) 1 (.slice A3' m c3')) (.inr (hAo.ne (by omega)))).far (Qad _ (w.heap.size+1) 2 (.slice C3 k e3)) (.inr (hAo.ne (by omega)))).rds.rd3);have HY5:=Zh ((((hown.far (Qad wr (w.heap.size+1) 0 (.slice A1 n c1)) (by omega)).far (Qad _ (w.heap.size+1) 1 (.slice A3' m c3')) (by omega)).far (Qad _ (w.heap.size+1) 2 (.slice C3 k e3)) (by omega)).rdY);clear hVo hAo hown j0 j1 hR;(go_wp2_with fail);refine bodyPost_ret (v:=.agg #[.slice A1 n c1,.slice A3' m c3',.slice C3 k e3]) (by simp [results,results88,go_sem,r0,r1,r2]) rfl ?_;exact ⟨A1,A3',C3,c1,c3',e3,rfl,⟨HV5.out,HA5.out,HY5.out⟩,Qah⟩}
theorem Qhc {g o b:Nat} (e:Qab (some ⟨g,o,none⟩)=some b):g=b:=by injection e
def TyO (W:World)(B g k:Nat)(ts:List Qft)(j:Nat):Prop :=
 ∃ cs,Blk W g 193 cs∧cs.size=k*3∧∀ (i:Nat) (t:Qft),i<j→ts[i]?=some t→∃ (A2:Option Addr) (n2 c2:Nat),cs[i*3]?=some (.int .i64 t.ins)∧cs[i*3+1]?=some (.int .i64 t.outs)∧cs[i*3+2]?=some (.slice A2 n2 c2)∧RdI W A2 n2 t.costs∧(∀ q,Qab A2=some q→B≤q∧q<W.heap.size)∧n2≤c2∧c2≤9223372036854775807
theorem TyO.lt {W:World}{B g k j:Nat}{ts:List Qft}(h:TyO W B g k ts j):g<W.heap.size:=by obtain ⟨cs,h1,_⟩:=h;exact h1.lt
theorem TyO.start {W:World}{B g k:Nat}{ts:List Qft}{cs:Array Value}(h:Blk W g 193 cs)(hs:cs.size=k*3):TyO W B g k ts 0:=⟨cs,h,hs,fun _ _ hi=>absurd hi (Nat.not_lt_zero _)⟩
theorem TyO.below {W W':World}{B g k j:Nat}{ts:List Qft}(h:TyO W B g k ts j)(hb:Below W.heap.size W W'):TyO W' B g k ts j:=by obtain ⟨cs,h1,h2,h3⟩:=h;refine ⟨cs,h1.below hb h1.lt,h2,fun i t hi ht=>?_⟩;obtain ⟨A2,n2,c2,k1,k2,k3,k4,k5,k6⟩:=h3 i t hi ht;exact ⟨A2,n2,c2,k1,k2,k3,k4.below hb,fun q hq=>⟨(k5 q hq).1,Yu (k5 q hq).2 hb.size⟩,k6⟩
theorem TyO.cell {W:World}{B g k j i:Nat}{ts:List Qft}(h:TyO W B g k ts j)(hi:i<k*3):(∃ v,W.cell? ⟨g,i,none⟩=some v)∧W.frozen? ⟨g,i,none⟩=false:=by exact Kbj
theorem TyO.set {W:World}{B g k j i:Nat}{ts:List Qft}(h:TyO W B g k ts j)(hi:j*3≤i)(hg:g<B)(v:Value):TyO (W.setCell ⟨g,i,none⟩ v) B g k ts j:=by obtain ⟨cs,h1,h2,h3⟩:=h;refine ⟨_,h1.set_ i v,by simpa using h2,fun i' t hi' ht=>?_⟩;obtain ⟨A2,n2,c2,k1,k2,k3,k4,k5,k6⟩:=h3 i' t hi' ht;refine ⟨A2,n2,c2,by rw [Array.getElem?_setIfInBounds_ne (by omega)];exact k1,by rw [Array.getElem?_setIfInBounds_ne (by omega)];exact k2,by rw [Array.getElem?_setIfInBounds_ne (by omega)];exact k3,k4.far v (fun e=>by have:=(k5 g e).1;omega),fun q hq=>⟨(k5 q hq).1,?_⟩,k6⟩;have:=(k5 q hq).2;simpa [World.setCell] using this
theorem TyO.put {W:World}{B g k j:Nat}{ts:List Qft}(h:TyO W B g k ts j)(hj:j<k)(hg:g<B)(a b s:Value) :
 TyO (((W.setCell ⟨g,j*3,none⟩ a).setCell ⟨g,j*3+1,none⟩ b).setCell ⟨g,j*3+2,none⟩ s) B g k ts j∧(((W.setCell ⟨g,j*3,none⟩ a).setCell ⟨g,j*3+1,none⟩ b).setCell ⟨g,j*3+2,none⟩ s).cell? ⟨g,j*3,none⟩=some a ∧
  (((W.setCell ⟨g,j*3,none⟩ a).setCell ⟨g,j*3+1,none⟩ b).setCell ⟨g,j*3+2,none⟩ s).cell? ⟨g,j*3+1,none⟩=some b∧(((W.setCell ⟨g,j*3,none⟩ a).setCell ⟨g,j*3+1,none⟩ b).setCell ⟨g,j*3+2,none⟩ s).cell? ⟨g,j*3+2,none⟩=some s:=by
 refine ⟨((h.set (Zn _) hg a).set (by omega) hg b).set (by omega) hg s,?_⟩;obtain ⟨cs,h1,h2,h3⟩:=h;have hB:=((h1.set_ (j*3) a).set_ (j*3+1) b).set_ (j*3+2) s;refine ⟨?_,?_,?_⟩
 all_goals
  rw [hB.cell];simp [Array.getElem?_setIfInBounds,h2];omega
theorem TyO.next {W:World}{B g k j n2 c2:Nat}{ts:List Qft}{t:Qft}{A2:Option Addr}(h:TyO W B g k ts j) (ht:ts[j]?=some t) (k1:W.cell? ⟨g,j*3,none⟩=some (.int .i64 t.ins)) (k2:W.cell? ⟨g,j*3+1,none⟩=some (.int .i64 t.outs)) (k3:W.cell? ⟨g,j*3+2,none⟩=some (.slice A2 n2 c2))
 (k4:RdI W A2 n2 t.costs) (k5:∀ q,Qab A2=some q→B≤q∧q<W.heap.size) (k6:n2≤c2) (k7:c2≤9223372036854775807):TyO W B g k ts (j+1):=by obtain ⟨cs,h1,h2,h3⟩:=h;refine ⟨cs,h1,h2,fun i t' hi ht'=>?_⟩;by_cases e:i=j;{subst e;rw [ht] at ht';cases ht';rw [h1.cell] at k1 k2 k3;exact ⟨A2,n2,c2,k1,k2,k3,k4,k5,k6,k7⟩};{exact h3 i t' (by omega) ht'}
theorem TyO.rdY2 {W:World}{B g k:Nat}{ts:List Qft}{G:Nat→Prop}(h:TyO W B g k ts k)(hl:ts.length=k)(hG:∀ q,B≤q→q<W.heap.size→G q):RdY2 W (msk W G) (some ⟨g,0,none⟩) k ts:=by obtain ⟨cs,h1,h2,h3⟩:=h;refine ⟨hl,fun i t ht=>?_⟩;obtain ⟨A2,n2,c2,k1,k2,k3,k4,k5,k6,k7⟩:=h3 i t (by rw [←hl];exact (Zs ht).1) ht;exact ⟨g,0,rfl,by rw [h1.cell,Yz];exact k1,by rw [h1.cell,Yz];exact k2,A2,n2,c2,by rw [h1.cell,Yz];exact k3,k4.msk (fun q hq=>hG q (k5 q hq).1 (k5 q hq).2),k6,k7⟩
theorem TyO.warm {W:World}{B g k j:Nat}{ts:List Qft}(h:TyO W B g k ts j):Warm W (some ⟨g,0,none⟩):=fun b hb=>by obtain ⟨cs,h1,h2,h3⟩:=h;cases hb;exact ⟨h1.lt,fun o=>h1.frozen o⟩
theorem Qvq (k:Nat)(hk:k≤1000000):∃ cs:Array Value,cs.size=k*3∧∀ W:World,(Instr.makeSlice 175 (.int .i64 (k:Int)) (.int .i64 (k:Int))).run prog W=.ok (.slice (some ⟨W.heap.size,0,none⟩) k k) (W.alloc (.cells cs 193)):=by obtain ⟨i,hi,hz,hs,hbb⟩:=info_parts Qpk;have hb':(i.bytes:Int)*(k:Int)≤281474976710656:=by{rw [hbb];omega};refine ⟨madeCells (Value.agg #[.int .i64 0,.int .i64 0,.slice none 0 0]).cells (k*i.size),by rw [size_madeCells,hs],fun W=>?_⟩;have hr:=run_make (P:=prog) W 175 193 i _ underlying175 hi hz .i64 .i64 k k (by omega) (by omega) hb' (by omega);simp only [Yl] at hr;exact hr
set_option maxHeartbeats 1000000 in
set_option maxRecDepth 20000 in
theorem Qls (A B C:Option Addr)(n m k c d e:Nat)(N:Qam)(w:World)(h:Qbz w A B C n m k N)(hn:n≤1000000)(hm:m≤1000000)(hk:k≤1000000)(hc:∀ t∈N.ts,t.costs.length≤1000000) :
 Calls prog 138 #[.agg #[.slice A n c,.slice B m d,.slice C k e]] w fun r w'=>∃ A' B' C' c' d' e',r=.returned (.agg #[.slice A' n c',.slice B' m d',.slice C' k e'])∧Qqo w' (fun b=>w.heap.size≤b∧b<w'.heap.size∧Qab B'≠some b∧Qab C'≠some b) A' B' C' n m k N ∧
  (∀ b,Qab B'=some b∨Qab C'=some b→w.heap.size≤b)∧n≤c'∧c'≤9223372036854775807∧m≤d'∧d'≤9223372036854775807∧k≤e'∧e'≤9223372036854775807∧Below w.heap.size w w':=by
 have HV:=Zh h.1;have HA:=Zh h.2.1;have HY:=Zh h.2.2;have HC:=Zh hc;clear h hc;obtain ⟨cs,hcs,hmk⟩:=Qvq k (by omega);have HCS:=Zh hcs;clear hcs;go_enter func138,ntmps138
 go_wp2_with fail
 (refine Qaj ?_;intro w1 hw1);have hb1:Below w.heap.size w w1:=by rw [hw1];exact Qah
 have hJ:Blk w1 w.heap.size 177 #[.slice A n c,.slice B m d,.slice C k e]:=by rw [hw1];exact Qbi
 have hR:Blk w1 (w.heap.size+1) 177 #[.slice none 0 0,.slice none 0 0,.slice none 0 0]:=by rw [hw1];exact Qbi
 have hT:TyO w1 (w.heap.size+3) (w.heap.size+2) k N.ts 0:=by rw [hw1];exact TyO.start Qbi HCS.out
 have hsz1:w.heap.size+3≤w1.heap.size:=by rw [hw1];simp
 clear hw1 hmk;go_loopw [13] (fun i W=>w.heap.size+3≤W.heap.size∧Below w.heap.size w W∧Blk W w.heap.size 177 #[.slice A n c,.slice B m d,.slice C k e]∧Blk W (w.heap.size+1) 177 #[.slice none 0 0,.slice none 0 0,.slice none 0 0]∧∃ j:Nat,j≤k∧i=.int .i64 j∧TyO W (w.heap.size+3) (w.heap.size+2) k N.ts j) (fun i _=>k-(intOf i).toNat)
 case atStart=>exact ⟨hsz1,hb1,hJ,hR,0,Nat.zero_le _,rfl,hT⟩
 case round =>
  clear hsz1 hb1 hJ hR hT;obtain ⟨hsz,hbl,hJ,hR,j,hj,rfl,hT⟩:=hrel;obtain ⟨j0,j1,j2⟩:=hJ.three;by_cases hlt:j<k
  · obtain ⟨sb,so,t,rfl,ht,cx,cy,A',n',c',cz,hr,hc1',hc2'⟩:=HY.out.at_ hlt;have dx:=Zc hbl (Zn _) cx;have dy:=Zc hbl (Zn _) cy;have dz:=Zc hbl (Zn _) cz
    have HTC:=Zh (show ∀ V,Below w.heap.size w V→Calls prog 147 #[.slice A' n' c'] V (fun e w'=>∃ A2 c2,e=.returned (.slice A2 n' c2)∧Own w' V.heap.size 2 1 A2 n' c2 (Qag t.costs)∧Below V.heap.size V w') from
     fun V hV=>Qum A' n' c' _ V (hr.below hV).rdsI (Qao _) (by have:=HC.out t (Zm ht);rw [hr.1] at this;omega))
    (obtain ⟨⟨v0,x0⟩,f0⟩:=hT.cell (i:=j*3) (by omega);obtain ⟨⟨v1,x1⟩,f1⟩:=hT.cell (i:=j*3+1) (by omega);obtain ⟨⟨v2,x2⟩,f2⟩:=hT.cell (i:=j*3+2) (by omega);have hTlt:=hT.lt;have HT:=Zh ht;have i3:0≤(j:Int):=by omega);(have i4:(j:Int)<k:=by omega);clear hr ht hc1' hc2' cx cy cz;(go_wp2_with fail);(refine Qac ?_;intro w2 hw2);have hT2:TyO w2 (w.heap.size+3) (w.heap.size+2) k N.ts j:=by{rw [hw2];exact (hT.put hlt (by omega) _ _ _).1.below Qah};(have hb2:Below w.heap.size w w2:=by rw [hw2];exact Qah);(have hz2:wr.heap.size+1=w2.heap.size:=by rw [hw2];simp [World.setCell]);(have hp:=hT.put hlt (by omega) (.int .i64 t.ins) (.int .i64 t.outs) (.slice A' n' c');have p0:w2.cell? ⟨w.heap.size+2,j*3,none⟩=some (.int .i64 t.ins):=by rw [hw2];exact Zc Qah (Zn _) hp.2.1);(have p1:w2.cell? ⟨w.heap.size+2,j*3+1,none⟩=some (.int .i64 t.outs):=by rw [hw2];exact Zc Qah (Zn _) hp.2.2.1);(have hJ2:Blk w2 w.heap.size 177 #[.slice A n c,.slice B m d,.slice (some ⟨sb,so,none⟩) k e]:=by rw [hw2];exact (((hJ.far_ (by omega) _).far_ (by omega) _).far_ (by omega) _).alloc _);(have hR2:Blk w2 (w.heap.size+1) 177 #[.slice none 0 0,.slice none 0 0,.slice none 0 0]:=by rw [hw2];exact (((hR.far_ (by omega) _).far_ (by omega) _).far_ (by omega) _).alloc _);(clear hw2 hT hJ hR x0 x1 x2 f0 f1 f2 j0 j1 j2 dx dy dz hp;with_reducible refine (HTC.out w2 hb2).mono ?_);rintro r w3 ⟨A2,c2,rfl,hown,hb3⟩;have hT3:=hT2.below hb3;have p3:=Zc hb3 (Zn _) p0;have p4:=Zc hb3 (Zn _) p1;obtain ⟨⟨v5,x5⟩,f5⟩:=hT3.cell (i:=j*3+2) (by omega);have hlt3:=hT3.lt;have hb3':Below w.heap.size w w3:=Zb hb2 hb3;have hq:=hown.ne (g:=w.heap.size+2) (by omega)
    have HN:=Zh (show TyO (w3.setCell ⟨w.heap.size+2,j*3+2,none⟩ (.slice A2 n' c2)) (w.heap.size+3) (w.heap.size+2) k N.ts (j+1) from by
     have hC:=Qad w3 (w.heap.size+2) (j*3+2) (.slice A2 n' c2);have hown2:=hown.far hC (.inr hq);refine (hT3.set (i:=j*3+2) (by omega) (by omega) (.slice A2 n' c2)).next HT.out ?_ ?_ ?_ hown2.rds.rdI (fun q hq=>?_) hown2.cap hown2.capMax
     · rw [World.cell?_setCell_other _ _ _ _ (fun e=>by injection e with _ e1;omega)]
       exact p3
     · rw [World.cell?_setCell_other _ _ _ _ (fun e=>by injection e with _ e1;omega)]
       exact p4
     · exact World.cell?_setCell_same _ _ _ x5
     · have:=hown2.lt q hq
       exact ⟨by omega,this.2⟩)
    have HJ3:=Zh ((hJ2.below hb3 hJ2.lt).far_ (b:=w.heap.size+2) (o:=j*3+2) (by omega) (.slice A2 n' c2));have HR3:=Zh ((hR2.below hb3 hR2.lt).far_ (b:=w.heap.size+2) (o:=j*3+2) (by omega) (.slice A2 n' c2));have HB3:=Zh (show Below w.heap.size w (w3.setCell ⟨w.heap.size+2,j*3+2,none⟩ (.slice A2 n' c2)) from hb3'.setCell (by simp) _);have hz3:=hb3.size;clear hT2 hT3 hown p0 p1 p3 p4 hJ2 hR2 hq hb2 hb3 hb3';(go_wp2_with fail);go_roundw;(case rel=>exact ⟨by simp [World.setCell];omega,HB3.out,HJ3.out,HR3.out,j+1,by omega,by go_num,HN.out⟩);case measure=>simp [intOf];omega
  · obtain rfl:k=j:=by omega
    have HCV:=Zh (show ∀ V,Below w.heap.size w V→Calls prog 176 #[.slice A n c] V (fun e w'=>∃ A2 c2,e=.returned (.slice A2 n c2)∧Own w' V.heap.size 243 3 A2 n c2 (Qaw N.vs)∧Below V.heap.size V w') from
     fun V hV=>Qun A n c _ V (HV.out.below hV).rds (Qdp _) (by omega))
    have HCA:=Zh (show ∀ V,Below w.heap.size w V→Calls prog 177 #[.slice B m d] V (fun e w'=>∃ A2 c2,e=.returned (.slice A2 m c2)∧Own w' V.heap.size 186 3 A2 m c2 (Qaw N.ar)∧Below V.heap.size V w') from
     fun V hV=>Qul B m d _ V (HA.out.below hV).rds (Qdp _) (by omega))
    have HSX:=Zh (show ∀ V,Blk V w.heap.size 177 #[.slice A n c,.slice B m d,.slice C k e]→V.cell? ⟨w.heap.size,0,none⟩=some (.slice A n c)∧V.cell? ⟨w.heap.size,1,none⟩=some (.slice B m d) from fun V hV=>⟨hV.three.1,hV.three.2.1⟩);clear j0 j1;(go_wp2_with fail);(refine wp_region_held_drew (S:=fun V=>Blk V w.heap.size 177 #[.slice A n c,.slice B m d,.slice C k e]) (by kernel_rfl) hJ.drew (fun _=>?_);refine tzb 0 30 ?_;refine tzb 3 33 ?_;refine tz 6 36 ?_;refine Zk 2 (fun K hK=>?_);go_simp;with_reducible refine (HCV.out _ Qah).mono ?_);rintro r w4 ⟨A2,c2,rfl,hvo,hb4⟩;(replace hvo:Own w4 wr.heap.size 243 3 A2 n c2 (Qaw N.vs):=hvo);(replace hb4:Below wr.heap.size wr w4:=(Zr _ wr).drew.trans hb4);have hbw4:Below w.heap.size w w4:=Zb hbl hb4;have hJ4:=hJ.below hb4 hJ.lt;have hR4:=hR.below hb4 hR.lt;have hl4:=hT.lt;have HTT:=Zh (hT.rdY2 (G:=fun q=>w.heap.size+3≤q∧q<wr.heap.size) HY.out.1 (fun q h1 h2=>⟨h1,h2⟩));have HTW:=Zh hT.warm;clear hJ hR hT;(go_wp2_with fail);(refine hK.out _ _ hJ4 (fun _=>?_);clear hK K;refine Zk 5 (fun K hK=>?_);go_simp;with_reducible refine (HCA.out _ Qah).mono ?_);(rintro r w5 ⟨B2,d2,rfl,hao,hb5⟩;have hbw5:Below w.heap.size w w5:=Zb hbw4 hb5;have hJ5:=hJ4.below hb5 hJ4.lt;have hR5:=hR4.below hb5 hR4.lt;have hvo5:=hvo.below hb5;have hvb:∀ b,Qab A2=some b→wr.heap.size≤b∧b<w4.heap.size:=hvo.lt);have hab:=hao.lt;clear hJ4 hR4 hvo;(go_wp2_with fail);refine hK.out _ _ hJ5 (fun _=>?_);clear hK K;refine tz 7 37 ?_;obtain ⟨r0,r1,r2⟩:=hR5.three;have f0:=hR5.frozen 0;have f1:=hR5.frozen 1;have f2:=hR5.frozen 2;have hrlt:=hR5.lt;refine Zk 8 (fun K hK=>?_);go_simp;refine hK.out _ _ (((hJ5.far_ (by omega) _).far_ (by omega) _).far_ (by omega) _) (fun _=>?_);clear hK K;refine Zd ?_;obtain ⟨w6,hw6⟩:=Zx (((w5.setCell ⟨w.heap.size+1,0,none⟩ (.slice A2 n c2)).setCell ⟨w.heap.size+1,1,none⟩ (.slice B2 m d2)).setCell ⟨w.heap.size+1,2,none⟩ (.slice (some ⟨w.heap.size+1+1,0,none⟩) k k));have hk6:∀ b,b≠w.heap.size+1→w6.heap[b]?=w5.heap[b]?:=fun b hb=>by{rw [hw6,Below.heap_setCell _ _ _ _ hb,Below.heap_setCell _ _ _ _ hb,Below.heap_setCell _ _ _ _ hb]};(have hz6:w6.heap.size=w5.heap.size:=by rw [hw6];simp [World.setCell]);have hz4:=hb4.size;have hz5:=hb5.size;have hc0:w6.cell? ⟨w.heap.size+1,0,none⟩=some (.slice A2 n c2)∧w6.cell? ⟨w.heap.size+1,1,none⟩=some (.slice B2 m d2)∧w6.cell? ⟨w.heap.size+1,2,none⟩=some (.slice (some ⟨w.heap.size+1+1,0,none⟩) k k):=by{rw [hw6];exact (((hR5.set_ 0 _).set_ 1 _).set_ 2 _).three};(have hb6:Below w.heap.size w w6:=by rw [hw6];exact Qah);rw [←hw6];clear hw6 r0 r1 r2 f0 f1 f2 hJ5 hR5;have hv6:Rd3 w6 A2 n N.vs:=hvo5.rds.rd3.keep (fun b hb=>hk6 b (by have:=hvb b hb;omega));have ha6:Rd3 w6 B2 m N.ar:=hao.rds.rd3.keep (fun b hb=>hk6 b (by have:=hab b hb;omega));have hkt:∀ b,w.heap.size+2≤b→b<wr.heap.size→w6.heap[b]?=wr.heap[b]?:=fun b h1 h2=>(hk6 b (by omega)).trans ((hb5.block b (by omega)).trans (hb4.block b h2))
    have HR:=Zh (show Qqo w6 (fun b=>w.heap.size≤b∧b<w6.heap.size∧Qab B2≠some b∧Qab (some ⟨w.heap.size+1+1,0,none⟩)≠some b) A2 B2 (some ⟨w.heap.size+1+1,0,none⟩) n m k N from by
     refine ⟨hv6.msk (fun b hb=>?_),ha6,?_,?_,?_,fun b hb hG=>hG.2.2.1 hb,fun b hb hG=>hG.2.2.2 hb,fun b hb e=>?_⟩
     · have:=hvb b hb
       exact Kcz
     · refine HTT.out.le (fun b o x hb hc=>Qds (hkt b ?_ ?_) hc) ?_
       · have:=Qhc hb;omega
       · have:=Qhc hb;omega
       · refine Le.trans (Qaz.msk (W':=w6) (fun b hb hl=>hkt b (by omega) hl)) (Qbe (fun b hb=>?_))
         exact Kcz
     · exact hao.warm.keep (by omega) (fun b hb=>hk6 b (by have:=hab b hb;omega))
     · exact HTW.out.keep (by omega) (fun b hb=>hkt b (by have:=Qhc hb;omega) (by have:=Qhc hb;omega))
     · have:=hab b hb
       have:=Qhc e;omega)
    have HB:=Zh (show ∀ b,Qab B2=some b∨Qab (some ⟨w.heap.size+1+1,0,none⟩)=some b→w.heap.size≤b from fun b hb=>by
     rcases hb with hb|hb
     · have:=hab b hb;omega
     · have:=Qhc hb;omega)
    have HCP:=Zh (show n≤c2∧c2≤9223372036854775807∧m≤d2∧d2≤9223372036854775807 from ⟨hvo5.cap,hvo5.capMax,hao.cap,hao.capMax⟩);obtain ⟨r0,r1,r2⟩:=hc0;clear hk6 hkt hv6 ha6 hao hvo5 hvb hab hl4 hrlt hz4 hz5 hz6 hbw4 hbw5 hb4 hb5;(go_wp2_with fail);refine bodyPost_ret (v:=.agg #[.slice A2 n c2,.slice B2 m d2,.slice (some ⟨w.heap.size+1+1,0,none⟩) k k]) (by simp [results,results138,go_sem,r0,r1,r2]) rfl ?_;exact ⟨A2,B2,_,c2,d2,k,rfl,HR.out,HB.out,HCP.out.1,HCP.out.2.1,HCP.out.2.2.1,HCP.out.2.2.2,by omega,by omega,hb6⟩
theorem IkO.far {W W':World}{B g n:Nat}{A:Option Addr} {ls:List (List Int)} (h:IkO W B g n ls) (hg:W.grownBy W' (Qab A)) (hA:Qab A≠some g) (hd:∀ (v:Nat) X m c,W.cell? ⟨g,v,none⟩=some (.slice X m c)→Dj A X):IkO W' B g n ls:=by obtain ⟨h1,h2,cs,h3,h4,h5,h6⟩:=h;refine ⟨h1,h2,cs,h3.grown hg hA,h4,fun v l hl=>?_,h6⟩;obtain ⟨X,c,k1,k2⟩:=h5 v l hl;exact ⟨X,c,k1,k2.far hg (hd v X _ _ (by rw [h3.cell];exact k1)).far⟩
def Ik2 (W:World)(B g1 g2 n:Nat) (l1 l2:List (List Int)):Prop :=
 IkO W B g1 n l1∧IkO W B g2 n l2∧g1≠g2∧∀ (v v':Nat) A m c A' m' c',W.cell? ⟨g1,v,none⟩=some (.slice A m c)→W.cell? ⟨g2,v',none⟩=some (.slice A' m' c')→Dj A A'
theorem Ik2.swap {W:World}{B g1 g2 n:Nat} {l1 l2:List (List Int)} (h:Ik2 W B g1 g2 n l1 l2):Ik2 W B g2 g1 n l2 l1 :=
 ⟨h.2.1,h.1,fun e=>h.2.2.1 e.symm,fun v v' A m c A' m' c' e1 e2=>(h.2.2.2 v' v A' m' c' A m c e2 e1).symm⟩
theorem Ik2.start {W:World}{B g1 g2 n:Nat}(h1:g1<B)(h2:g2<B)(hne:g1≠g2) (b1:Blk W g1 61 (Qbs (.slice none 0 0) n)) (b2:Blk W g2 61 (Qbs (.slice none 0 0) n)):Ik2 W B g1 g2 n (List.replicate n []) (List.replicate n []):=by refine ⟨IkO.start h1 b1,IkO.start h2 b2,hne,fun v v' A m c A' m' c' e1 _=>?_⟩;rw [b1.cell] at e1;have e:=(Array.getElem?_eq_some_iff.1 e1).2;simp [Qbs] at e;obtain ⟨rfl,_,_⟩:=e;exact .inl rfl
theorem Ik2.below {W W':World}{B g1 g2 n:Nat} {l1 l2:List (List Int)} (h:Ik2 W B g1 g2 n l1 l2) (hb:Below W.heap.size W W'):Ik2 W' B g1 g2 n l1 l2:=by refine ⟨h.1.below hb,h.2.1.below hb,h.2.2.1,fun v v' A m c A' m' c' e1 e2=>?_⟩;rw [hb.cell (p:=⟨g1,v,none⟩) h.1.lt] at e1;rw [hb.cell (p:=⟨g2,v',none⟩) h.2.1.lt] at e2;exact h.2.2.2 v v' A m c A' m' c' e1 e2
theorem Ik2.set {W:World}{B g1 g2 n b i:Nat} {l1 l2:List (List Int)} (h:Ik2 W B g1 g2 n l1 l2) (h1:b≠g1) (h2:b≠g2) (hB:b<B) (v:Value):Ik2 (W.setCell ⟨b,i,none⟩ v) B g1 g2 n l1 l2:=by have hg:=Qad W b i v;refine ⟨h.1.grown hg (fun q e=>by cases e;exact ⟨h1,hB⟩),h.2.1.grown hg (fun q e=>by cases e;exact ⟨h2,hB⟩),h.2.2.1,fun u u' A m c A' m' c' e1 e2=>?_⟩;rw [World.cell?_setCell_other _ _ _ _ (fun e=>h1 (by injection e))] at e1;rw [World.cell?_setCell_other _ _ _ _ (fun e=>h2 (by injection e))] at e2;exact h.2.2.2 u u' A m c A' m' c' e1 e2
theorem IkO.rowAt {W:World}{B g n v m c:Nat}{X:Option Addr} {ls:List (List Int)} (h:IkO W B g n ls) (hc:W.cell? ⟨g,v,none⟩=some (.slice X m c)):∃ xs,Own W B 3 1 X m c xs:=by obtain ⟨h1,h2,cs,h3,h4,h5,h6⟩:=h;rw [h3.cell] at hc;have hv:=(Array.getElem?_eq_some_iff.1 hc).1;obtain ⟨A,c',k1,k2⟩:=h5 v _ (Zg (show v<ls.length by omega));rw [hc] at k1;cases k1;exact ⟨_,k2⟩
theorem Ik2.push {W w':World}{B g1 g2 n u c c':Nat}{A A':Option Addr} {l1 l2:List (List Int)} {l:List Int} {k:Int} (h:Ik2 W B g1 g2 n l1 l2) (hl:l1[u]?=some l) (hc:W.cell? ⟨g1,u,none⟩=some (.slice A l.length c))
 (hown:Own w' B 3 1 A' (l.length+1) c' (Qag l ++Qag [k])) (hg:W.grownBy w' (Qab A)) (hat:Qab A'=Qab A∨Qab A'=some W.heap.size) :
 Ik2 (w'.setCell ⟨g1,u,none⟩ (.slice A' (l.length+1) c')) B g1 g2 n (l1.set u (l ++[k])) l2:=by
 obtain ⟨h1,h2,hne,h3⟩:=h;obtain ⟨xs,hA⟩:=h1.rowAt hc;have hB1:g1<B:=h1.2.1
 have hB2:g2<B:=h2.2.1
 have hA2:Qab A≠some g2:=hA.ne hB2;have hA1:Qab A≠some g1:=hA.ne hB1;have hd:∀ (v:Nat) X m d,W.cell? ⟨g2,v,none⟩=some (.slice X m d)→Dj A X:=fun v X m d e=>h3 u v _ _ _ _ _ _ hc e
 have hcell2:∀ v,w'.cell? ⟨g2,v,none⟩=W.cell? ⟨g2,v,none⟩:=fun v=>World.cell?_of_block (hg.block g2 h2.lt (fun e=>hA2 e.symm))
 have hcell1:∀ v,w'.cell? ⟨g1,v,none⟩=W.cell? ⟨g1,v,none⟩:=fun v=>World.cell?_of_block (hg.block g1 h1.lt (fun e=>hA1 e.symm))
 refine ⟨h1.push hl hc hown hg hat,(h2.far hg hA2 hd).grown (Qad _ _ _ _) (fun q e=>by cases e;exact ⟨hne,hB1⟩),hne,fun v v' X m d X' m' d' e1 e2=>?_⟩;rw [World.cell?_setCell_other _ _ _ _ (fun e=>hne (by injection e)),hcell2] at e2;by_cases e:u=v;{subst e;rw [World.cell?_setCell_same _ _ _ (by rw [hcell1];exact hc)] at e1;cases e1;obtain ⟨ys,hX⟩:=h2.rowAt e2;exact (hd v' _ _ _ e2).next hX hat};{rw [World.cell?_setCell_other _ _ _ _ (fun e'=>e (by injection e')),hcell1] at e1;exact h3 v v' _ _ _ _ _ _ e1 e2}
def PlO (W:World)(g m:Nat)(ar:List Tri)(j:Nat):Prop :=
 ∃ cs,Blk W g 246 cs∧cs.size=m*2∧∀ (i:Nat) (a:Tri),i<j→ar[i]?=some a→cs[i*2]?=some (.int .i64 (Qha ar i a).1)∧cs[i*2+1]?=some (.int .i64 (Qha ar i a).2)
theorem PlO.start {W:World}{g m:Nat}{ar:List Tri}{cs:Array Value}(h:Blk W g 246 cs)(hs:cs.size=m*2):PlO W g m ar 0:=⟨cs,h,hs,fun _ _ hi=>absurd hi (Nat.not_lt_zero _)⟩
theorem PlO.grown {W W':World}{g m j:Nat}{ar:List Tri}{r:Option Nat}(h:PlO W g m ar j)(hg:W.grownBy W' r)(hr:r≠some g):PlO W' g m ar j:=by obtain ⟨cs,h1,h2⟩:=h;exact ⟨cs,h1.grown hg hr,h2⟩
theorem PlO.below {W W':World}{g m j:Nat}{ar:List Tri}(h:PlO W g m ar j)(hb:Below W.heap.size W W'):PlO W' g m ar j:=by obtain ⟨cs,h1,h2⟩:=h;exact ⟨cs,h1.below hb h1.lt,h2⟩
theorem PlO.cell {W:World}{g m j i:Nat}{ar:List Tri}(h:PlO W g m ar j)(hi:i<m*2):(∃ v,W.cell? ⟨g,i,none⟩=some v)∧W.frozen? ⟨g,i,none⟩=false:=by exact Kbj
theorem PlO.next {W:World}{g m j:Nat}{ar:List Tri}{a:Tri}(h:PlO W g m ar j)(hj:j<m) (ha:ar[j]?=some a):PlO ((W.setCell ⟨g,j*2,none⟩ (.int .i64 (Qha ar j a).1)).setCell ⟨g,j*2+1,none⟩ (.int .i64 (Qha ar j a).2)) g m ar (j+1):=by obtain ⟨cs,h1,h2,h3⟩:=h;refine ⟨_,(h1.set_ _ _).set_ _ _,by simpa using h2,fun i x hi hx=>?_⟩;by_cases e:i=j;{subst e;rw [ha] at hx;cases hx;refine ⟨?_,?_⟩;{rw [Array.getElem?_setIfInBounds_ne (by omega),Array.getElem?_setIfInBounds_self_of_lt (by omega)]};{rw [Array.getElem?_setIfInBounds_self_of_lt (by rw [Array.size_setIfInBounds];omega)]}};{rw [Array.getElem?_setIfInBounds_ne (by omega),Array.getElem?_setIfInBounds_ne (by omega),Array.getElem?_setIfInBounds_ne (by omega),Array.getElem?_setIfInBounds_ne (by omega)];exact h3 i x (by omega) hx}
theorem PlO.rdP {W:World}{g m:Nat}{ar:List Tri}(h:PlO W g m ar m)(hl:ar.length=m):RdP W (some ⟨g,0,none⟩) m (plcs ar):=by obtain ⟨cs,h1,h2,h3⟩:=h;refine ⟨by rw [Qtq];exact hl,fun i x hx=>?_⟩;have hi:=(Zs hx).1;rw [Qtq] at hi;have ha:ar[i]?=some ar[i]:=Zg hi;rw [Qnu ha] at hx;cases hx;obtain ⟨k1,k2⟩:=h3 i _ (by omega) ha;exact ⟨g,0,rfl,by rw [h1.cell,Yz];exact k1,by rw [h1.cell,Yz];exact k2⟩
theorem infoPl:(Tryz.prog.info? 246).map (fun i=>(i.zero,i.size,i.bytes))=some (some (.agg #[.int .i64 0,.int .i64 0]),2,16):=by kernel_rfl
theorem Qhf:(Tryz.prog.info? 61).map (fun i=>(i.zero,i.size,i.bytes))=some (some (.slice none 0 0),1,24):=by kernel_rfl
theorem Qvp (k:Nat)(hk:k≤1000000):∃ cs:Array Value,cs.size=k*2∧∀ W:World,(Instr.makeSlice 187 (.int .i64 (k:Int)) (.int .i64 (k:Int))).run prog W=.ok (.slice (some ⟨W.heap.size,0,none⟩) k k) (W.alloc (.cells cs 246)):=by obtain ⟨i,hi,hz,hs,hbb⟩:=info_parts infoPl;have hb':(i.bytes:Int)*(k:Int)≤281474976710656:=by{rw [hbb];omega};refine ⟨madeCells (Value.agg #[.int .i64 0,.int .i64 0]).cells (k*i.size),by rw [size_madeCells,hs],fun W=>?_⟩;have hr:=run_make (P:=prog) W 187 246 i _ underlying187 hi hz .i64 .i64 k k (by omega) (by omega) hb' (by omega);simp only [Yl] at hr;exact hr
theorem Qmt (n:Nat)(hn:n≤1000000)(W:World):(Instr.makeSlice 27 (.int .i64 (n:Int)) (.int .i64 (n:Int))).run prog W=.ok (.slice (some ⟨W.heap.size,0,none⟩) n n) (W.alloc (.cells (Qbs (.slice none 0 0) n) 61)) :=
 Qfp (P:=prog) 27 61 (.slice none 0 0) 24 Qhf underlying27 rfl n (by omega) (by omega) .i64 .i64 W
structure Got3 (W:World) (n m:Nat) (cs:Array Value) (i o p:Nat) (w':World):Prop where
 sz:w'.heap.size=W.heap.size+3
 io:i≠o
 ip:i≠p
 op:o≠p
 li:W.heap.size≤i∧i<W.heap.size+3
 lo:W.heap.size≤o∧o<W.heap.size+3
 lp:W.heap.size≤p∧p<W.heap.size+3
 bi:Blk w' i 61 (Qbs (.slice none 0 0) n)
 bo:Blk w' o 61 (Qbs (.slice none 0 0) n)
 bp:Blk w' p 246 cs
 bl:Below W.heap.size W w'
def Qmy (W:World)(n m:Nat)(cs:Array Value)(v1 v2 v3:Value)(w':World):Prop:=∃ i o p:Nat,v1=.slice (some ⟨i,0,none⟩) n n∧v2=.slice (some ⟨o,0,none⟩) n n∧v3=.slice (some ⟨p,0,none⟩) m m∧Got3 W n m cs i o p w'
theorem Qmy.of {W:World}{n m:Nat}{cs:Array Value}{w':World}(i o p:Nat)(h:Got3 W n m cs i o p w'):Qmy W n m cs (.slice (some ⟨i,0,none⟩) n n) (.slice (some ⟨o,0,none⟩) n n) (.slice (some ⟨p,0,none⟩) m m) w':=⟨i,o,p,rfl,rfl,rfl,h⟩
theorem Qta:(Tryz.prog.info? 135).map (fun i=>(i.zero,i.size,i.bytes))=some (some (.agg #[.slice none 0 0,.slice none 0 0]),2,48):=by kernel_rfl
theorem Qxq:(Tryz.prog.info? 209).map (fun i=>(i.zero,i.size,i.bytes))=some (some (.slice none 0 0),1,24):=by kernel_rfl
theorem Qxz (a:Value)(n:Nat):madeCells #[a,a] n=Qbs a n:=by
 apply Array.ext';unfold madeCells Qbs;apply List.ext_getElem?;intro i;simp only [Array.toList_map,Array.toList_range,Yt];rcases Nat.lt_or_ge i n with h|h
 {rw [List.getElem?_range h];rcases Nat.mod_two_eq_zero_or_one i with h0|h0 <;> simp [h0,h]};{rw [Yd (by simpa using h),Yd (by simpa using h)];rfl}
theorem Qpy (k:Nat)(hk:k≤1000000)(W:World):(Instr.makeSlice 209 (.int .i64 (k:Int)) (.int .i64 (k:Int))).run prog W=.ok (.slice (some ⟨W.heap.size,0,none⟩) k k) (W.alloc (.cells (Qbs (.slice none 0 0) (k*2)) 135)):=by obtain ⟨i,hi,hz,hs,hbb⟩:=info_parts Qta;have hb':(i.bytes:Int)*(k:Int)≤281474976710656:=by{rw [hbb];omega};have hr:=run_make (P:=prog) W 209 135 i _ underlying209 hi hz .i64 .i64 k k (by omega) (by omega) hb' (by omega);simp only [Yl] at hr;rw [hs,show (Value.agg #[.slice none 0 0,.slice none 0 0]).cells=#[.slice none 0 0,.slice none 0 0] from rfl,Qxz] at hr;exact hr
theorem Qob (n:Nat)(hn:n≤1000000)(W:World):(Instr.makeSlice 206 (.int .i64 (n:Int)) (.int .i64 (n:Int))).run prog W=.ok (.slice (some ⟨W.heap.size,0,none⟩) n n) (W.alloc (.cells (Qbs (.slice none 0 0) n) 209)) :=
 Qfp (P:=prog) 206 209 (.slice none 0 0) 24 Qxq underlying206 rfl n (by omega) (by omega) .i64 .i64 W
def GtO (W:World)(B lv L:Nat)(ar:List Tri) (ls:List (List Int)) (k:Nat):Prop :=
 ∃ cs,Blk W lv 209 cs∧cs.size=L∧∀ (i:Nat) (l:List Int),i<k→ls[i]?=some l→∃ (A:Option Addr) (c:Nat),cs[i]?=some (.slice A (Qar l).toNat c)∧RdC (msk W (fun b=>B≤b∧b<W.heap.size)) A (Qar l).toNat (Qaf ar l)∧(Qar l).toNat≤c∧c≤9223372036854775807
theorem GtO.start {W:World}{B lv L:Nat}{ar:List Tri} {ls:List (List Int)} {cs:Array Value} (h:Blk W lv 209 cs) (hs:cs.size=L):GtO W B lv L ar ls 0:=⟨cs,h,hs,fun _ _ hi=>absurd hi (Nat.not_lt_zero _)⟩
theorem GtO.lt {W:World}{B lv L k:Nat}{ar:List Tri} {ls:List (List Int)} (h:GtO W B lv L ar ls k):lv<W.heap.size:=by obtain ⟨cs,h1,_⟩:=h;exact h1.lt
theorem GtO.below {W W':World}{B lv L k:Nat}{ar:List Tri} {ls:List (List Int)} (h:GtO W B lv L ar ls k) (hb:Below W.heap.size W W'):GtO W' B lv L ar ls k:=by obtain ⟨cs,h1,h2,h3⟩:=h;refine ⟨cs,h1.below hb h1.lt,h2,fun i l hi hl=>?_⟩;obtain ⟨A,c,k1,k2,k3⟩:=h3 i l hi hl;exact ⟨A,c,k1,k2.le (Le.trans (Qaz.msk (Qaz.below hb)) (Qbe (fun b hb'=>⟨hb'.1,Yu hb'.2 hb.size⟩))),k3⟩
theorem GtO.cell {W:World}{B lv L k i:Nat}{ar:List Tri} {ls:List (List Int)} (h:GtO W B lv L ar ls k) (hi:i<L):(∃ v,W.cell? ⟨lv,i,none⟩=some v)∧W.frozen? ⟨lv,i,none⟩=false:=by exact Kbj
theorem GtO.next {W:World}{B lv L k c:Nat}{ar:List Tri} {ls:List (List Int)} {l:List Int} {A:Option Addr} (h:GtO W B lv L ar ls k) (hk:k<L) (hB:lv<B) (hl:ls[k]?=some l)
 (hr:RdC (msk W (fun b=>B≤b∧b<W.heap.size)) A (Qar l).toNat (Qaf ar l)) (h1:(Qar l).toNat≤c) (h2:c≤9223372036854775807):GtO (W.setCell ⟨lv,k,none⟩ (.slice A (Qar l).toNat c)) B lv L ar ls (k+1):=by
 obtain ⟨cs,g1,g2,g3⟩:=h;have hz:(W.setCell ⟨lv,k,none⟩ (.slice A (Qar l).toNat c)).heap.size=W.heap.size:=by simp [World.setCell]
 have hle:Le (msk W (fun b=>B≤b∧b<W.heap.size)) (msk (W.setCell ⟨lv,k,none⟩ (.slice A (Qar l).toNat c)) (fun b=>B≤b∧b<(W.setCell ⟨lv,k,none⟩ (.slice A (Qar l).toNat c)).heap.size)):=by{rw [hz];exact Qaz.msk (Qaz.set W lv k _ (fun hG=>by omega))};refine ⟨_,g1.set_ k _,by simpa using g2,fun i l' hi hl'=>?_⟩;by_cases e:i=k;{subst e;rw [hl] at hl';cases hl';exact ⟨A,c,Array.getElem?_setIfInBounds_self_of_lt (by omega),hr.le hle,h1,h2⟩};{obtain ⟨A',c',k1,k2,k3⟩:=g3 i l' (by omega) hl';exact ⟨A',c',by rw [Array.getElem?_setIfInBounds_ne (by omega)];exact k1,k2.le hle,k3⟩}
theorem GtO.rdG {W:World}{B lv L:Nat}{G:Nat→Prop}{ar:List Tri} {ls:List (List Int)} (h:GtO W B lv L ar ls L) (hl:ls.length=L) (hg:G lv) (hG:∀ b,B≤b→b<W.heap.size→G b):RdG (msk W G) (some ⟨lv,0,none⟩) L (Qae ar ls):=by
 obtain ⟨cs,h1,h2,h3⟩:=h;refine ⟨by simp [Qae,hl],fun i row hr=>?_⟩;unfold Qae at hr;rw [Yt] at hr
 cases e:ls[i]? with
 | none=>rw [e] at hr;cases hr
 | some l =>rw [e] at hr;cases hr;obtain ⟨A,c,k1,k2,k3⟩:=h3 i l (by rw [←hl];exact (Zs e).1) e;exact ⟨lv,0,A,_,c,rfl,Qbb.2 ⟨hg,by rw [Yz,h1.cell];exact k1⟩,k2.le (Qbe (fun b hb=>hG b hb.1 hb.2)),k3⟩
theorem IkG.rdCM {t:TypeId}{W:World}{B g:Nat}{G:Nat→Prop}{ar:List Tri}{l:List Int} (h:IkG t W B g ((Qar l).toNat*2) (Qdy (toC ar l) (frC ar l) (Qas ar l) (Qar l).toNat)) (hg:G g) (hB:∀ b,B≤b→b<W.heap.size→G b):RdC (msk W G) (some ⟨g,0,none⟩) (Qar l).toNat (Qaf ar l):=by
 refine ⟨Qaq ar l,fun c x hx=>?_⟩;have hc:c<(Qar l).toNat:=by rw [←Qaq ar l];exact (Zs hx).1
 rw [Qco hc] at hx;cases hx;obtain ⟨A1,c1,l1,e1,e2,_,e4⟩:=h.row (u:=c*2) (by omega);obtain ⟨A2,c2,l2,d1,d2,_,d4⟩:=h.row (u:=c*2+1) (by omega);rw [Qjl hc] at e1;rw [Qhv hc] at d1;cases e1;cases d1;exact ⟨g,0,A1,_,c1,A2,_,c2,rfl,Qbb.2 ⟨hg,by rw [Yz];exact e2⟩,(e4.rds.rdI).msk (fun b hb=>hB b (e4.lt b hb).1 (e4.lt b hb).2),Qbb.2 ⟨hg,by rw [Yz];exact d2⟩,(d4.rds.rdI).msk (fun b hb=>hB b (d4.lt b hb).1 (d4.lt b hb).2),⟨e4.cap,e4.capMax⟩,d4.cap,d4.capMax⟩
theorem Qcm {n:Nat}{l:List Int}(h:Qgg n l){v:Nat}(hv:v<n):∃ c:Nat,Qaa l (v:Int)=c∧c<(Qar l).toNat∧l[v]?=some (c:Int):=by obtain ⟨x,e⟩:∃ x,l[v]?=some x:=⟨_,Zg (by rw [h.len];exact hv)⟩;have h0:=h.lo _ (Zm e);have h1:=Qti (Zm e);refine ⟨x.toNat,?_,by omega,by rw [e];congr 1;omega⟩;rw [Qba e];omega
set_option maxHeartbeats 2000000 in
set_option maxRecDepth 20000 in
theorem Qxe (g:Nat)(N:Qam)(Q:Option Addr)(L cq n:Nat) (ls:List (List Int)) (w:World) (h:Qfh w g N) (hN:Qap N) (hq:RdT w Q L ls) (hP:Qat n ls) (hn:N.vs.length=n) :
 Calls prog 142 #[.pointer (some ⟨g,0,none⟩),.agg #[.slice Q L cq]] w fun e w'=>∃ A,e=.returned (.slice A L L)∧RdG (msk w' (fun b=>w.heap.size≤b∧b<w'.heap.size)) A L (Qae N.ar ls)∧Below w.heap.size w w':=by
 have HG:=Zh h;have HN:=Zh hN;have HT:=Zh hq;have HP:=Zh hP;have HVN:=Zh hn;have hn4:n≤4096:=by rw [←hn];exact hN.lv
 have hm:N.ar.length≤16384:=hN.la;have HMM:=Zh hm;have l6:L≤6:=by rw [←hq.1];exact hP.l6
 have hmk:=Qob L (by omega);clear h hN hq hP hn hm;go_enter func142,ntmps142
 go_wp2_with fail
 (refine Qaj ?_;intro w1 hw1);have hb1:Below w.heap.size w w1:=by rw [hw1];exact Qah
 have hQ:Blk w1 w.heap.size 132 #[.slice Q L cq]:=by rw [hw1];exact Qbi
 clear hw1
 have HSX:=Zh (show ∀ V,Below w1.heap.size w1 V→V.cell? ⟨w.heap.size,0,none⟩=some (.slice Q L cq) from fun V hV=>by
  have:=(hQ.below hV hQ.lt).cell 0
  simpa using this)
 refine wp_region_held_drew (S:=fun V=>Below w1.heap.size w1 V) (by kernel_rfl) (Zr _ _).drew (fun _=>?_);refine tz 0 13 ?_;refine tz 2 15 ?_;refine Zk 1 (fun K hK=>?_);go_simp;with_reducible refine (Qmh g N _ (HG.out.below (show Below w.heap.size w w1.drew from Qah))).mono ?_
 rintro e w' ⟨rfl,rfl⟩;rw [HVN.out];go_wp2_with fail
 refine hK.out _ _ (Zr _ _).drew (fun _=>?_);clear hK K;refine Zk 3 (fun K hK=>?_);go_simp;with_reducible refine (Qiz Q n L cq ls _ (HT.out.below (show Below w.heap.size w w1.drew from Qah)) HP.out hn4).mono ?_
 rintro e w2 ⟨rfl,hb2⟩;have hb12:Below w1.heap.size w1 w2:=Zb Qah hb2;clear hb2;go_wp2_with fail
 refine hK.out _ _ hb12 (fun _=>?_);clear hK K;refine tz 4 17 ?_;refine Zd ?_;have q0:=HSX.out w2 hb12;have hQ2:=hQ.below hb12 hQ.lt;have hbw2:=Zb hb1 hb12;clear hQ;have q0a:=fun o=>Zc (show Below w2.heap.size w2 (w2.alloc o) from Qah) (Zn _) q0
 go_wp2_with fail
 (refine Qaj ?_;intro w3 hw3);have hb23:Below w2.heap.size w2 w3:=by rw [hw3];exact Qah
 have hQ3:=hQ2.below hb23 hQ2.lt;have hG3:GtO w3 (w2.heap.size+1) w2.heap.size L N.ar ls 0:=by rw [hw3];exact GtO.start (Blk.new _ _ _) (by simp [Qbs])
 have hz3:w2.heap.size+1≤w3.heap.size:=by rw [hw3];simp
 have hb3:=Zb hbw2 hb23;have hz2:w.heap.size+1≤w2.heap.size:=by have:=hQ2.lt;omega
 have hzw:=hbw2.size;clear hw3 hb23 hQ2 q0 q0a hmk hb12 HSX;go_loopw [25] (fun q W=>w2.heap.size+1≤W.heap.size∧Below w.heap.size w W∧Blk W w.heap.size 132 #[.slice Q L cq]∧∃ i:Nat,i≤L∧q=.int .i64 i∧GtO W (w2.heap.size+1) w2.heap.size L N.ar ls i) (fun q _=>L-(intOf q).toNat)
 case atStart=>exact ⟨hz3,hb3,hQ3,0,Nat.zero_le _,rfl,hG3⟩
 case round =>
  clear hz3 hb3 hQ3 hG3;obtain ⟨hsz,hbl,hQ,i,hi,rfl,hGt⟩:=hrel;have q0:=hQ.cell 0;simp only [Yo,Yn] at q0;by_cases hlt:i<L
  · obtain ⟨b,o,A,m,c,l,rfl,hl,hc,hr,q1,q2⟩:=HT.out.at_ hlt;(have hlo:=HP.out.lvl l (Zm hl);obtain rfl:n=m:=by rw [←hr.1];exact hlo.len.symm);have hcc:=Zc hbl (Zn _) hc;have hM0:=Qce l;have hM1:=Qcg (l:=l) (n:=(n:Int)) (fun x hx=>hlo.hi x hx) (by omega);obtain ⟨M,hM⟩:∃ M:Nat,Qar l=M:=⟨(Qar l).toNat,by omega⟩;have HCN:=Zh (show ∀ V,Below w.heap.size w V→Calls prog 183 #[.agg #[.slice (some ⟨b,o,none⟩) L cq],.int .i64 ((i:Int)+1)] V fun e w'=>e=.returned (.int .i64 M)∧Below V.heap.size V w' from fun V hV=>hM▸count_ok _ L cq i ls l V (HT.out.below hV) hl (by omega) (fun x hx=>⟨hlo.lo x hx,by have:=hlo.hi x hx;omega⟩));have HCR:=Zh (show ∀ V,Below w.heap.size w V→Calls prog 184 #[.pointer (some ⟨g,0,none⟩),.agg #[.slice (some ⟨b,o,none⟩) L cq],.int .i64 ((i:Int)+1)] V fun e w'=>∃ A c,e=.returned (.slice A (Qas N.ar l).length c)∧RdI w' A (Qas N.ar l).length (Qas N.ar l)∧(∀ b,Qab A=some b→V.heap.size≤b∧b<w'.heap.size)∧Below V.heap.size V w' from fun V hV=>cross_ok g N _ L cq i n ls l V (HG.out.below hV) HN.out (HT.out.below hV) hl (by omega) hlo HVN.out);(have HLO:=Zh hlo;have HLL:=Zh hl;have HR:=Zh hr;have HMM2:=Zh hM;rw [hM] at hM0 hM1;have hM3:M≤1000000:=by omega);(have hmkc:=Qpy M hM3;have i1:0≤(i:Int):=by omega);(have i2:(i:Int)<L:=by omega);clear hr hlo hl hc q1 hM;(go_wp2_with fail);(with_reducible refine (HCN.out wr hbl).mono ?_);(rintro e w4 ⟨rfl,hb4⟩;have q0':=Zc hb4 (Zn _) q0;have q0b:=fun o=>Zc (show Below w4.heap.size w4 (w4.alloc o) from Qah) (Zn _) q0');have hbw4:=Zb hbl hb4;(go_wp2_with fail);(refine Qac ?_;intro w5 hw5);(have hb45:Below w4.heap.size w4 w5:=by rw [hw5];exact Qah);(have hC5:Blk w5 w4.heap.size 135 (Qbs (.slice none 0 0) (M*2)):=by rw [hw5];exact Blk.new _ _ _);(clear hw5 q0' q0b hmkc;have hbr5:Below wr.heap.size wr w5:=Zb hb4 hb45;have hbw5:=Zb hbw4 hb45;have hz45:w4.heap.size+1≤w5.heap.size:=by have:=hC5.lt;omega);(have hzr4:=hb4.size;with_reducible refine (HCR.out w5 hbw5).mono ?_);rintro e w6 ⟨AX,cX,rfl,hX,hXl,hb6⟩;have hbr6:Below wr.heap.size wr w6:=Zb hbr5 hb6;have hbw6:=Zb hbw5 hb6;have hI6:IkG 135 w6 w6.heap.size w4.heap.size (M*2) (Qdy (toC N.ar l) (frC N.ar l) ((Qas N.ar l).take 0) M):=by{rw [List.take_zero,Qpf];exact IkG.start (by have:=hb6.size;omega) (hC5.below hb6 hC5.lt)}
    have HXL:=Zh (show ∀ x∈Qas N.ar l,∃ (a:Nat) (y:Tri),x=(a:Int)∧N.ar[a]?=some y from fun x hx=>by
     obtain ⟨a,y,e1,e2,_⟩:=Qtn.1 hx;exact ⟨a,y,e1,e2⟩)
    have hXm:(Qas N.ar l).length≤16384:=Yx (Qfv _ _) HMM.out;have hz56:=hb6.size;clear hC5 hb4 hb45 hb6 hbw4 hbw5 hbr5;generalize hKK:(Qas N.ar l).length=K at *;have HKK:=Zh hKK;clear hKK;(go_wp2_with fail);obtain ⟨wo,hwo⟩:=Zx wr;subst hwo;(go_loopw [41] (fun q W=>w6.heap.size≤W.heap.size∧Below w.heap.size w W∧Below wo.heap.size wo W∧∃ j:Nat,j≤K∧q=.int .i64 j∧RdI W AX K (Qas N.ar l)∧IkG 135 W w6.heap.size w4.heap.size (M*2) (Qdy (toC N.ar l) (frC N.ar l) ((Qas N.ar l).take j) M)) (fun q _=>K-(intOf q).toNat));case atStart=>exact ⟨Zn _,hbw6,hbr6,0,Nat.zero_le _,rfl,hX,hI6⟩
    case round =>
     clear hbw6 hbr6 hX hI6;obtain ⟨hsz6,hblw,hblo,j,hj,rfl,hX,hI⟩:=hrel;by_cases hlt2:j<K
     · obtain ⟨xb,xo,x,rfl,hx,hcx⟩:=hX.at_ hlt2;obtain ⟨a,⟨u,v,z⟩,rfl,hay⟩:=HXL.out x (Zm hx);have hu0:=HN.out.arcs _ (Zm hay);have f0:=hu0.f0;have f1:=hu0.f1;have g0:=hu0.g0;have g1:=hu0.g1;simp only at f0 f1 g0 g1;rw [HVN.out] at f1 g1;obtain ⟨u,rfl⟩:∃ u':Nat,u=u':=⟨u.toNat,by omega⟩;obtain ⟨v,rfl⟩:∃ v':Nat,v=v':=⟨v.toNat,by omega⟩;obtain ⟨p,hp1,hp2,hp3⟩:=Qcm HLO.out (v:=v) (by omega);obtain ⟨q,hq1,hq2,hq3⟩:=Qcm HLO.out (v:=u) (by omega);rw [HMM2.out,Yl] at hp2 hq2;obtain ⟨rb,ro,_,rfl,e1,cp⟩:=HR.out.at_ (i:=v) (by omega);rw [hp3] at e1;cases e1;obtain ⟨rb',ro',_,e2,e1,cq'⟩:=HR.out.at_ (i:=u) (by omega);rw [hq3] at e1;cases e1;cases e2;have cp2:=Zc hblw (Zn _) cp;have cq2:=Zc hblw (Zn _) cq';have HTO:=Zh (show ∀ n,Calls prog 144 #[.pointer (some ⟨g,0,none⟩),.int .i64 a] (wr.drewN n) fun e w'=>e=.returned (.int .i64 (v:Int))∧wr.drewN n=w' from fun n=>Qfj g a N _ _ (HG.out.below (Qay hblw n)) hay);have HFR:=Zh (show ∀ n,Calls prog 143 #[.pointer (some ⟨g,0,none⟩),.int .i64 a] (wr.drewN n) fun e w'=>e=.returned (.int .i64 (u:Int))∧wr.drewN n=w' from fun n=>Qgs g a N _ _ (HG.out.below (Qay hblw n)) hay)
       have HNX:=Zh (show Qdy (toC N.ar l) (frC N.ar l) ((Qas N.ar l).take (j+1)) M=((Qdy (toC N.ar l) (frC N.ar l) ((Qas N.ar l).take j) M).set (p*2) (((Qas N.ar l).take j).filter (fun a=>toC N.ar l a == (p:Int)) ++[(a:Int)])).set (q*2+1) (((Qas N.ar l).take j).filter (fun a=>frC N.ar l a == (q:Int)) ++[(a:Int)]) by
        rw [Qmg ((Qof hay).trans hp1) ((Qnj hay).trans hq1) hp2 hq2,Yf (Zs hx).1,(Zs hx).2])
       (have HP1:=Zh (Qjl (t:=toC N.ar l) (f:=frC N.ar l) (X:=(Qas N.ar l).take j) hp2);have HQ1:=Zh (Qhv (t:=toC N.ar l) (f:=frC N.ar l) (X:=(Qas N.ar l).take j) hq2);have hfl1:(((Qas N.ar l).take j).filter (fun a=>toC N.ar l a == (p:Int))).length≤j:=Yx (List.length_filter_le _ _) (List.length_take_le _ _);have hfl2:(((Qas N.ar l).take j).filter (fun a=>frC N.ar l a == (q:Int))).length≤j:=Yx (List.length_filter_le _ _) (List.length_take_le _ _);have k1:0≤(j:Int):=by omega);(have k2:(j:Int)<K:=by omega);(have k3:0≤(v:Int):=by omega);(have k4:(v:Int)<n:=by omega);(have k5:0≤(u:Int):=by omega);(have k6:(u:Int)<n:=by omega);(have k7:0≤(p:Int):=by omega);(have k8:(p:Int)<M:=by omega);(have k9:0≤(q:Int):=by omega);(have k10:(q:Int)<M:=by omega);clear hx hay hu0 hp1 hq1 hp3 hq3 cp cq';generalize ((Qas N.ar l).take j).filter (fun a=>toC N.ar l a == (p:Int))=lp at *;generalize ((Qas N.ar l).take j).filter (fun a=>frC N.ar l a == (q:Int))=lq at *;(go_wp2_with fail);(go_quiet ((first|(go_at_call 144;exact Qgy (HTO.out _))|(go_at_call 143;exact Qgy (HFR.out _)))));(obtain ⟨W1,hW1⟩:=Zx (wr.drewN nq);rw [←hW1];have hbd:Below wr.heap.size wr W1:=by rw [hW1];exact Qay (Zr _ _) _);have hIW1:=hI.below hbd;have hXW1:=hX.below hbd;have hwW1:=Zb hblw hbd;have hoW1:=Zb hblo hbd;have hzW1:w6.heap.size≤W1.heap.size:=Yx hsz6 hbd.size;have hqW1:=hIW1.lt;clear hW1 hbd hI hX hcx cp2 cq2;have hrW1:Below W1.heap.size W1 (W1.alloc (.cells #[.int .i64 (a:Int)] 3)):=Qah;have hIA:=hIW1.below hrW1;obtain ⟨Ac,cc,lc,ec,cwc,ffc,hoc⟩:=hIA.row (u:=p*2) (by omega);rw [HP1.out] at ec;cases ec;(have cw:W1.cell? ⟨w4.heap.size,p*2,none⟩=some (.slice Ac lp.length cc):=by rw [←hrW1.cell (p:=⟨w4.heap.size,p*2,none⟩) (by simp only;omega)];exact cwc);have hrA:Rds (W1.alloc (.cells #[.int .i64 (a:Int)] 3)) 1 (some ⟨W1.heap.size,0,none⟩) 1 (Qag [(a:Int)]):=(Blk.new W1 3 (Qcf [(a:Int)])).rds rfl;have hXA:=hXW1.below hrW1;have hwA:=Zb hwW1 hrW1;have hoA:=Zb hoW1 hrW1;have hzA:w6.heap.size≤(W1.alloc (.cells #[.int .i64 (a:Int)] 3)).heap.size:=Yx hzW1 hrW1.size;have HXb:=Zh (show ∀ g,Qab (some ⟨xb,xo,none⟩)=some g→Qab Ac≠some g from fun g hg e=>by have h1:=(hoc.lt g e).1;have h2:=hXl g hg;omega);have HXc:=Zh (show Qab (some ⟨xb,xo,none⟩)≠some w4.heap.size from fun e=>by have h2:=hXl _ e;omega);(go_wp2_with (at_builtin;with_reducible refine Qal rfl (.tmp 65) (.tmp 67) 61 rfl 3 _ 1 8 Qbo underlying61 rfl (by omega) rfl rfl hoc hrA (Qao _) (by omega) (by omega) hzA ?_));intro A' c' w' hown' hg hat;obtain ⟨xf,hfv,hff⟩:=hIA.cellG (u:=p*2) (by omega) hg (hoc.ne (by omega));have hz':=hg.size;obtain ⟨W2,hWW2⟩:=Zx (w'.setCell ⟨w4.heap.size,p*2,none⟩ (.slice A' (lp.length+1) c'));have hIW2:=hIA.push (HP1.out) cwc hown' hg (by simpa using hat);rw [←hWW2] at hIW2;have hXW2:RdI W2 (some ⟨xb,xo,none⟩) K (Qas N.ar l):=by{rw [hWW2];exact (RdK.grownN hXA hg HXb.out).far _ HXc.out};(have hwW2:Below w.heap.size w W2:=by rw [hWW2];exact (Zo hwA hg (hoc.mono (by omega)) (by omega)).setCell (by simp only;omega) _);(have hoW2:Below wo.heap.size wo W2:=by rw [hWW2];exact (Zo hoA hg (hoc.mono (by omega)) (by omega)).setCell (by simp only;omega) _);(have hzW2:w6.heap.size≤W2.heap.size:=by rw [hWW2];simp [World.setCell];omega);have hqW2:=hIW2.lt;clear hIA hoc cwc ffc hrA hXA hwA hoA hown' hg hat HXb HXc hIW1 hXW1 hrW1 hzA;have HQ2:=Zh (show ((Qdy (toC N.ar l) (frC N.ar l) ((Qas N.ar l).take j) M).set (p*2) (lp ++[(a:Int)]))[q*2+1]?=some lq by rw [Yh (by omega)];exact HQ1.out);have hrW2:Below W2.heap.size W2 (W2.alloc (.cells #[.int .i64 (a:Int)] 3)):=Qah;have hIA:=hIW2.below hrW2;obtain ⟨Ac,cc,lc,ec,cwc,ffc,hoc⟩:=hIA.row (u:=q*2+1) (by omega);rw [HQ2.out] at ec;cases ec;(have cw:W2.cell? ⟨w4.heap.size,q*2+1,none⟩=some (.slice Ac lq.length cc):=by rw [←hrW2.cell (p:=⟨w4.heap.size,q*2+1,none⟩) (by simp only;omega)];exact cwc);have hrA:Rds (W2.alloc (.cells #[.int .i64 (a:Int)] 3)) 1 (some ⟨W2.heap.size,0,none⟩) 1 (Qag [(a:Int)]):=(Blk.new W2 3 (Qcf [(a:Int)])).rds rfl;have hXA:=hXW2.below hrW2;have hwA:=Zb hwW2 hrW2;have hoA:=Zb hoW2 hrW2;have hzA:w6.heap.size≤(W2.alloc (.cells #[.int .i64 (a:Int)] 3)).heap.size:=Yx hzW2 hrW2.size;have HXb:=Zh (show ∀ g,Qab (some ⟨xb,xo,none⟩)=some g→Qab Ac≠some g from fun g hg e=>by have h1:=(hoc.lt g e).1;have h2:=hXl g hg;omega);have HXc:=Zh (show Qab (some ⟨xb,xo,none⟩)≠some w4.heap.size from fun e=>by have h2:=hXl _ e;omega);have cwE:=cw;rw [hWW2] at cwE;rw [show W2.heap.size=w'.heap.size by rw [hWW2];simp [World.setCell]] at hrA;have HWW2:=Zh hWW2;clear cw hWW2;(go_wp2_with (at_builtin;rw [←HWW2.out];with_reducible refine Qal rfl (.tmp 75) (.tmp 77) 61 rfl 3 _ 1 8 Qbo underlying61 rfl (by omega) rfl rfl hoc hrA (Qao _) (by omega) (by omega) hzA ?_));intro A' c' w' hown' hg hat;obtain ⟨xf,hfv,hff⟩:=hIA.cellG (u:=q*2+1) (by omega) hg (hoc.ne (by omega));have hz':=hg.size;obtain ⟨W3,hWW3⟩:=Zx (w'.setCell ⟨w4.heap.size,q*2+1,none⟩ (.slice A' (lq.length+1) c'));have hIW3:=hIA.push (HQ2.out) cwc hown' hg (by simpa using hat);rw [←hWW3] at hIW3;have hXW3:RdI W3 (some ⟨xb,xo,none⟩) K (Qas N.ar l):=by{rw [hWW3];exact (RdK.grownN hXA hg HXb.out).far _ HXc.out};(have hwW3:Below w.heap.size w W3:=by rw [hWW3];exact (Zo hwA hg (hoc.mono (by omega)) (by omega)).setCell (by simp only;omega) _);(have hoW3:Below wo.heap.size wo W3:=by rw [hWW3];exact (Zo hoA hg (hoc.mono (by omega)) (by omega)).setCell (by simp only;omega) _);(have hzW3:w6.heap.size≤W3.heap.size:=by rw [hWW3];simp [World.setCell];omega);have hqW3:=hIW3.lt;clear hIA hoc cwc ffc hrA hXA hwA hoA hown' hg hat HXb HXc hIW2 hXW2 hrW2 hzA;(go_wp2_with fail);rw [←hWW3];clear hWW3 hfv hff;rw [←HNX.out] at hIW3;go_roundw;(case rel=>exact ⟨hzW3,hwW3,hoW3,j+1,by omega,by go_num,hXW3,hIW3⟩);case measure=>simp [intOf];omega
     · (obtain rfl:K=j:=by omega);rw [Ye (by rw [HKK.out];exact Zn _)] at hI;have hGr:=hGt.below hblo;have hQr:=hQ.below hblo hQ.lt;have hbz:=hblo.size
       have HRC:=Zh (show RdC (msk wr (fun b=>w2.heap.size+1≤b∧b<wr.heap.size)) (some ⟨w4.heap.size,0,none⟩) (Qar l).toNat (Qaf N.ar l) from by
        have hI':IkG 135 wr w6.heap.size w4.heap.size ((Qar l).toNat*2) (Qdy (toC N.ar l) (frC N.ar l) (Qas N.ar l) (Qar l).toNat):=by
         rw [HMM2.out,Yl];exact hI
        exact hI'.rdCM ⟨by omega,hI.lt⟩ (fun b h1 h2=>⟨by omega,h2⟩))
       obtain ⟨⟨vx,cx⟩,fx⟩:=hGr.cell hlt
       have HGN:=Zh (show GtO (wr.setCell ⟨w2.heap.size,i,none⟩ (.slice (some ⟨w4.heap.size,0,none⟩) M M)) (w2.heap.size+1) w2.heap.size L N.ar ls (i+1) from by
        have:=hGr.next (c:=M) hlt (by omega) HLL.out HRC.out (by rw [HMM2.out];simp) (by omega);rw [HMM2.out,Yl] at this;exact this)
       have HQN:=Zh (hQr.far_ (b:=w2.heap.size) (o:=i) (by omega) (.slice (some ⟨w4.heap.size,0,none⟩) M M));have HBN:=Zh (show Below w.heap.size w (wr.setCell ⟨w2.heap.size,i,none⟩ (.slice (some ⟨w4.heap.size,0,none⟩) M M)) from hblw.setCell (by simp only;omega) _);clear hI hX hGr hQr HRC hblw hblo hGt hQ hbl q0 hcc;(go_wp2_with fail);go_roundw;(case rel=>exact ⟨by simp [World.setCell];omega,HBN.out,HQN.out,i+1,by omega,by go_num,HGN.out⟩);case measure=>simp [intOf];omega
  {(obtain rfl:L=i:=by omega);have HR:=Zh (hGt.rdG (G:=fun b=>w.heap.size≤b∧b<wr.heap.size) HT.out.1 ⟨by omega,hGt.lt⟩ (fun b h1 h2=>⟨by omega,h2⟩));clear hGt;(go_wp2_with fail);go_ret;exact ⟨_,rfl,HR.out,hbl⟩}
end Go.Proofs.YtdheeddnkdhfeaaGreatDoor
