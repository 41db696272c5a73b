/- Qbl of the proof: Nt10, G1, G2. -/
import Derived.Test.YtkaaakbejnlbgaaGreatDoorD5
set_option maxHeartbeats 1000000
set_option maxRecDepth 20000
namespace Go.Proofs.YtkaaakbejnlbgaaGreatDoor
open Go.RowKit Go.Proofs.Tryz
attribute [local go_sem ↓] Go.wp_at_zero Go.wp_at_succ
theorem infoVert:(Tryz.prog.info? 196).map (fun i=>(i.zero,i.size,i.bytes))=some (some (.agg #[.int .i64 0,.int .i64 0,.int .i64 0]),3,24):=Kf
theorem infoArc:(Tryz.prog.info? 197).map (fun i=>(i.zero,i.size,i.bytes))=some (some (.agg #[.int .i64 0,.int .i64 0,.int .i64 0]),3,24):=Kf
theorem Quj:(Tryz.prog.info? 198).map (fun i=>(i.zero,i.size,i.bytes))=some (some (.agg #[.int .i64 0,.int .i64 0,.slice none 0 0]),3,40):=Kf
theorem Qpb {L:List Tri}{k:Nat}{p:Tri} (h:L[k]?=some p):Qbb (L.take (k+1))=Qbb (L.take k) ++[.int .i64 p.1,.int .i64 p.2.1,.int .i64 p.2.2]:=by have hlt:=(Zs h).1;have e:=(Zs h).2;rw [Yf hlt,e,Qgb];rfl
theorem Qed (x y z:Int):∀ u∈[Value.int .i64 x,Value.int .i64 y,Value.int .i64 z],u.oneCell'=true:=by intro u hu;simp at hu;rcases hu with rfl|rfl|rfl <;> rfl
theorem Own.apart {w:World}{B' s' n' c':Nat}{e':TypeId}{A A':Oz}{xs':List Value}(h:∀ g,Qaa A=some g→g<B')(h':Own w B' e' s' A' n' c' xs'):Qaa A=none∨Qaa A≠Qaa A':=by
 cases hA:Qaa A with
 | none=>exact .inl rfl
 | some g =>refine .inr (fun e=>?_);have:=(h'.lt g e.symm).1;have:=h g hA;omega
--BODY
theorem Rgx (A B C:Oz)(n m k c d e:Nat)(N:Qak)(w:World)(h:Qcp w A B C n m k N)(hn:n≤1000000)(hm:m≤1000000)(hk:k≤1000000)(hc:∀ t∈N.ts,t.costs.length≤1000000) :
 Calls prog 55 #[.agg #[.slice A n c,.slice B m d,.slice C k e]] w fun r w'=>∃ A' B' C' c' d' e',r=.returned (.agg #[.slice A' n c',.slice B' m d',.slice C' k e'])∧Qcp w' A' B' C' n m k N∧Bw w w':=by
 have HV:=Zh h.1;have HA:=Zh h.2.1;have HY:=Zh h.2.2;have HC:=Zh hc;clear h hc;go_enter func55,ntmps55
 go_wp2_with fail
 (refine Qai ?_;intro w1 hw1);have hb1:Bw w w1:=by rw [hw1];exact Qag
 have hJ:Blk w1 w.heap.size 26 #[.slice A n c,.slice B m d,.slice C k e]:=by rw [hw1];exact Qbi
 have hR:Blk w1 (w.heap.size+1) 121 #[.slice none 0 0,.slice none 0 0,.slice none 0 0]:=by rw [hw1];exact Qbi
 have hK0:Blk w1 (w.heap.size+2) 121 #[.slice none 0 0,.slice none 0 0,.slice none 0 0]:=by rw [hw1];exact Qbi
 clear hw1;go_loopw [4] (fun i W=>Bw w W∧Blk W w.heap.size 26 #[.slice A n c,.slice B m d,.slice C k e]∧Blk W (w.heap.size+1) 121 #[.slice none 0 0,.slice none 0 0,.slice none 0 0]∧∃ (j:Nat) (A3:Oz) (c3:Nat),j≤n∧i=.int .i64 j∧Blk W (w.heap.size+2) 121 #[.slice A3 j c3,.slice none 0 0,.slice none 0 0]∧Own W (w.heap.size+3) 196 3 A3 j c3 (Qbb (N.vs.take j))) (fun i _=>n-(intOf i).toNat)
 case atStart=>exact ⟨hb1,hJ,hR,0,none,0,Nat.zero_le _,rfl,hK0,by simpa [Qbb] using Own.nil _ _ _ _⟩
 case round =>
  clear hb1 hJ hR hK0;obtain ⟨hbl,hJ,hR,j,A3,c3,hj,rfl,hK0,hown⟩:=hrel;obtain ⟨j0,j1,j2⟩:=hJ.three;obtain ⟨k0,k1,k2⟩:=hK0.three;by_cases hlt:j<n
  · obtain ⟨sb,so,x,y,z,rfl,hx,cx,cy,cz⟩:=HV.o.at_ hlt;have HN:=Zh (Qpb hx);have dx:=Zc hbl (Zn _) cx;have dy:=Zc hbl (Zn _) cy;have dz:=Zc hbl (Zn _) cz
    have HSX:=Zh (show ∀ V,Below (w.heap.size+2) wr V→V.cell? ⟨w.heap.size,0,none⟩=some (.slice (some ⟨sb,so,none⟩) n c)∧V.cell? ⟨sb,so+j*3,none⟩=some (.int .i64 x)∧V.cell? ⟨sb,so+j*3+1,none⟩=some (.int .i64 y)∧V.cell? ⟨sb,so+j*3+2,none⟩=some (.int .i64 z) from
     fun V hb=>⟨(hb.cell Sn).trans j0,(hb.cell (by have:=Qaj cx;simp only at this ⊢;omega)).trans dx,(hb.cell (by have:=Qaj cx;simp only at this ⊢;omega)).trans dy,(hb.cell (by have:=Qaj cx;simp only at this ⊢;omega)).trans dz⟩)
    (have i3:0≤(j:Int):=Oo);(have i4:(j:Int)<n:=Oo);(have hsz:w.heap.size+3≤wr.heap.size:=by have:=hK0.lt;omega);clear hx cx cy cz dx dy dz j1 j2 k0 k1 k2;(go_wp2_with fail);refine wp_region_held_drew (S:=fun V=>Below (w.heap.size+2) wr V) Kf (Zr _ _).drew (fun _=>?_);refine tz 0 14 ?_;refine tzd 2 16 ?_;refine tzd 6 20 ?_;refine tzd 10 24 ?_;refine tzd 14 28 ?_;refine tzb 18 32 ?_;refine tz 20 34 ?_;refine wpAnyH_ready (rs:=[1,21]) Kf Sm ?_;refine AllReadyH.cons (o:=_) rfl (fun K hK=>?_) (AllReadyH.cons (o:=_) rfl (fun K hK=>?_) AllReadyH.nil)
    focus
     have k3a:=hK0.three;obtain ⟨k3a,k3b,k3c⟩:=k3a;go_simp;refine hK.out _ _ (Zr _ _).drew (fun _=>?_);clear hK K k3a k3b k3c;refine Zk 21 (fun K hK=>?_);go_simp;refine hK.out _ _ (((Zr _ _).alloc Oo _).drew) (fun _=>?_);clear hK K
    rotate_left
    focus
     go_simp;refine hK.out _ _ (((Zr _ _).alloc Oo _).drew) (fun _=>?_);clear hK K;have k3a:=fun o=>(hK0.alloc o).three.1
     have k3b:=fun o=>(hK0.alloc o).three.2.1
     refine Zk 1 (fun K hK=>?_);go_simp;refine hK.out _ _ (((Zr _ _).alloc Oo _).drew) (fun _=>?_);clear hK K k3a k3b
    all_goals
     have hW:∃ W,W=(wr.alloc (.cells #[.int .i64 x,.int .i64 y,.int .i64 z] 196)).drew:=⟨_,rfl⟩;obtain ⟨W,hW⟩:=hW;rw [←hW];have hownW:Own W (w.heap.size+3) 196 3 A3 j c3 (Qbb (N.vs.take j)):=by rw [hW];exact (by repeat (first|assumption|apply Own.drewN|apply Own.drew|apply Own.alloc))
     skip
     have hrdW:Rds W 3 (some ⟨wr.heap.size,0,none⟩) 1 [.int .i64 x,.int .i64 y,.int .i64 z]:=by rw [hW];exact (Blk.new wr 196 #[.int .i64 x,.int .i64 y,.int .i64 z]).rds rfl
     have hbW:Below (w.heap.size+2) wr W:=by rw [hW];exact ((Zr _ _).alloc Oo _).drew
     have hblW:Bw w W:=by rw [hW];exact Qag
     have hJW:Blk W w.heap.size 26 #[.slice (some ⟨sb,so,none⟩) n c,.slice B m d,.slice C k e]:=by rw [hW];exact Qiq
     have hRW:Blk W (w.heap.size+1) 121 #[.slice none 0 0,.slice none 0 0,.slice none 0 0]:=by rw [hW];exact Qiq
     have hKW:Blk W (w.heap.size+2) 121 #[.slice A3 j c3,.slice none 0 0,.slice none 0 0]:=by rw [hW];exact Qiq
     have hWsz:(w.heap.size+3)≤W.heap.size:=by rw [hW];simp;omega
     clear hW;refine Zk 22 (fun K hK=>?_);with_reducible refine Qbc (some 36) rfl rfl (.tmp 15) (.tmp 35) 117 rfl 196 _ 3 24 infoVert underlying117 rfl Oo rfl rfl hownW hrdW (Qed x y z) Oo Oo hWsz ?_
     intro A' c' w' hown' hg _;have hb5:Below (w.heap.size+2) wr w':=Zo hbW hg (hownW.mono Oo) Oo;have hb6:Bw w w':=Zo hblW hg (hownW.mono Oo) Oo;have hJ':=hJW.grown hg (hownW.ne Oo);have hR':=hRW.grown hg (hownW.ne Oo);have hK':=hKW.grown hg (hownW.ne Oo)
     skip
     clear hownW hrdW hbW hblW hJW hRW hKW hg;refine hK.out _ _ hb5 (fun _=>?_);clear hK K;simp only [Act.put,Yi,Yj,Yk];refine tz 23 37 ?_;have k3':=hK'.three;have kf':=hK'.frozen 0;obtain ⟨k3a,k3b,k3c⟩:=k3';refine Zk 24 (fun K hK=>?_);go_simp;refine hK.out _ _ (hb5.setCell Sn _) (fun _=>?_);clear hK K;refine Zd ?_;have HO:=Zh (hown'.far (Qac w' (w.heap.size+2) 0 (.slice A' (j+1) c')) (.inr (hown'.ne Oo)));have HK2:=Zh (hK'.set_ 0 (.slice A' (j+1) c'))
     skip
     clear hown' hK' k3a k3b k3c kf'
     go_wp2_with fail
     go_roundw
     case rel=>exact ⟨Qag,Qiq,Qiq,j+1,A',c',Oo,by go_num,HK2.o,by rw [HN.o];exact HO.o⟩
     case measure=>simp [intOf];omega
  · (obtain rfl:n=j:=Oo);(obtain ⟨A1,rfl⟩:=Zx A3;obtain ⟨c1,rfl⟩:=Zx c3;rw [Ye (by rw [HV.o.1];exact Zn _)] at hown;obtain ⟨w2,hw2⟩:=Zx wr;subst hw2;have hz2:w.heap.size+3≤w2.heap.size:=by have:=hK0.lt;omega);have HLT:=Zh (fun g hg=>(hown.lt g hg).2);(go_wp2_with fail);(go_loopw [5] (fun i W=>w2.heap.size≤W.heap.size∧Bw w W∧Blk W w.heap.size 26 #[.slice A n c,.slice B m d,.slice C k e]∧Blk W (w.heap.size+1) 121 #[.slice none 0 0,.slice none 0 0,.slice none 0 0]∧Own W (w.heap.size+3) 196 3 A1 n c1 (Qbb N.vs)∧∃ (j:Nat) (A3:Oz) (c3:Nat),j≤m∧i=.int .i64 j∧Blk W (w.heap.size+2) 121 #[.slice A1 n c1,.slice A3 j c3,.slice none 0 0]∧Own W w2.heap.size 197 3 A3 j c3 (Qbb (N.ar.take j))) (fun i _=>m-(intOf i).toNat));case atStart=>exact ⟨Zn _,hbl,hJ,hR,hown,0,none,0,Nat.zero_le _,rfl,hK0,by simpa [Qbb] using Own.nil _ _ _ _⟩
    case round =>
     clear hbl hJ hR hown hK0 j0 j1 j2 k0 k1 k2 hj;obtain ⟨hszr,hbl,hJ,hR,hVo,j,A3,c3,hj,rfl,hK0,hown⟩:=hrel;obtain ⟨j0,j1,j2⟩:=hJ.three;obtain ⟨k0,k1,k2⟩:=hK0.three;by_cases hlt:j<m
     · obtain ⟨sb,so,x,y,z,rfl,hx,cx,cy,cz⟩:=HA.o.at_ hlt;have HN:=Zh (Qpb hx);have dx:=Zc hbl (Zn _) cx;have dy:=Zc hbl (Zn _) cy;have dz:=Zc hbl (Zn _) cz
       have HSX:=Zh (show ∀ V,Below (w.heap.size+2) wr V→V.cell? ⟨w.heap.size,1,none⟩=some (.slice (some ⟨sb,so,none⟩) m d)∧V.cell? ⟨sb,so+j*3,none⟩=some (.int .i64 x)∧V.cell? ⟨sb,so+j*3+1,none⟩=some (.int .i64 y)∧V.cell? ⟨sb,so+j*3+2,none⟩=some (.int .i64 z) from
        fun V hb=>⟨(hb.cell Sn).trans j1,(hb.cell (by have:=Qaj cx;simp only at this ⊢;omega)).trans dx,(hb.cell (by have:=Qaj cx;simp only at this ⊢;omega)).trans dy,(hb.cell (by have:=Qaj cx;simp only at this ⊢;omega)).trans dz⟩)
       (have i3:0≤(j:Int):=Oo);(have i4:(j:Int)<m:=Oo);have hsz:w2.heap.size≤wr.heap.size:=hszr;clear hx cx cy cz dx dy dz j0 j2 k0 k1 k2;(go_wp2_with fail);refine wp_region_held_drew (S:=fun V=>Below (w.heap.size+2) wr V) Kf (Zr _ _).drew (fun _=>?_);refine tz 0 45 ?_;refine tzd 2 47 ?_;refine tzd 6 51 ?_;refine tzd 10 55 ?_;refine tzd 14 59 ?_;refine tzb 18 63 ?_;refine tz 20 65 ?_;refine wpAnyH_ready (rs:=[1,21]) Kf Sm ?_;refine AllReadyH.cons (o:=_) rfl (fun K hK=>?_) (AllReadyH.cons (o:=_) rfl (fun K hK=>?_) AllReadyH.nil)
       focus
        have k3a:=hK0.three;obtain ⟨k3a,k3b,k3c⟩:=k3a;go_simp;refine hK.out _ _ (Zr _ _).drew (fun _=>?_);clear hK K k3a k3b k3c;refine Zk 21 (fun K hK=>?_);go_simp;refine hK.out _ _ (((Zr _ _).alloc Oo _).drew) (fun _=>?_);clear hK K
       rotate_left
       focus
        go_simp;refine hK.out _ _ (((Zr _ _).alloc Oo _).drew) (fun _=>?_);clear hK K;have k3a:=fun o=>(hK0.alloc o).three.1
        have k3b:=fun o=>(hK0.alloc o).three.2.1
        refine Zk 1 (fun K hK=>?_);go_simp;refine hK.out _ _ (((Zr _ _).alloc Oo _).drew) (fun _=>?_);clear hK K k3a k3b
       all_goals
        have hW:∃ W,W=(wr.alloc (.cells #[.int .i64 x,.int .i64 y,.int .i64 z] 197)).drew:=⟨_,rfl⟩;obtain ⟨W,hW⟩:=hW;rw [←hW];have hownW:Own W w2.heap.size 197 3 A3 j c3 (Qbb (N.ar.take j)):=by rw [hW];exact (by repeat (first|assumption|apply Own.drewN|apply Own.drew|apply Own.alloc))
        have hVW:Own W (w.heap.size+3) 196 3 A1 n c1 (Qbb N.vs):=by rw [hW];exact (by repeat (first|assumption|apply Own.drewN|apply Own.drew|apply Own.alloc))
        have hrdW:Rds W 3 (some ⟨wr.heap.size,0,none⟩) 1 [.int .i64 x,.int .i64 y,.int .i64 z]:=by rw [hW];exact (Blk.new wr 197 #[.int .i64 x,.int .i64 y,.int .i64 z]).rds rfl
        have hbW:Below (w.heap.size+2) wr W:=by rw [hW];exact ((Zr _ _).alloc Oo _).drew
        have hblW:Bw w W:=by rw [hW];exact Qag
        have hJW:Blk W w.heap.size 26 #[.slice A n c,.slice (some ⟨sb,so,none⟩) m d,.slice C k e]:=by rw [hW];exact Qiq
        have hRW:Blk W (w.heap.size+1) 121 #[.slice none 0 0,.slice none 0 0,.slice none 0 0]:=by rw [hW];exact Qiq
        have hKW:Blk W (w.heap.size+2) 121 #[.slice A1 n c1,.slice A3 j c3,.slice none 0 0]:=by rw [hW];exact Qiq
        have hWsz:w2.heap.size≤W.heap.size:=by rw [hW];simp;omega
        clear hW;refine Zk 22 (fun K hK=>?_);with_reducible refine Qbc (some 67) rfl rfl (.tmp 46) (.tmp 66) 118 rfl 197 _ 3 24 infoArc underlying118 rfl Oo rfl rfl hownW hrdW (Qed x y z) Oo Oo hWsz ?_
        intro A' c' w' hown' hg _;have hb5:Below (w.heap.size+2) wr w':=Zo hbW hg (hownW.mono Oo) Oo;have hb6:Bw w w':=Zo hblW hg (hownW.mono Oo) Oo;have hJ':=hJW.grown hg (hownW.ne Oo);have hR':=hRW.grown hg (hownW.ne Oo);have hK':=hKW.grown hg (hownW.ne Oo);have hV':=hVW.far hg (Own.apart HLT.o hownW);clear hVW;clear hownW hrdW hbW hblW hJW hRW hKW hg;refine hK.out _ _ hb5 (fun _=>?_);clear hK K;simp only [Act.put,Yi,Yj,Yk];refine tz 23 68 ?_;have k3':=hK'.three;have kf':=hK'.frozen 1;obtain ⟨k3a,k3b,k3c⟩:=k3';refine Zk 24 (fun K hK=>?_);go_simp;refine hK.out _ _ (hb5.setCell Sn _) (fun _=>?_);clear hK K;refine Zd ?_;have HO:=Zh (hown'.far (Qac w' (w.heap.size+2) 1 (.slice A' (j+1) c')) (.inr (hown'.ne Oo)));have HK2:=Zh (hK'.set_ 1 (.slice A' (j+1) c'));have HV2:=Zh (hV'.far (Qac w' (w.heap.size+2) 1 (.slice A' (j+1) c')) (.inr (hV'.ne Oo)));clear hV';clear hown' hK' k3a k3b k3c kf'
        go_wp2_with fail
        go_roundw
        case rel=>exact ⟨(by have:=hb5.size;simp [World.setCell];omega),Qag,Qiq,Qiq,HV2.o,j+1,A',c',Oo,by go_num,HK2.o,by rw [HN.o];exact HO.o⟩
        case measure=>simp [intOf];omega
     · (obtain rfl:m=j:=Oo);obtain ⟨A3',rfl⟩:=Zx A3;obtain ⟨c3',rfl⟩:=Zx c3;rw [Ye (by rw [HA.o.1];exact Zn _)] at hown;obtain ⟨w3,hw3⟩:=Zx wr;subst hw3;have HLV:=HLT;clear HLT;have HLT:=Zh (show ∀ g,Qaa A1=some g→g<w3.heap.size from fun g hg=>by have:=HLV.out g hg;omega);(have HLA:=Zh (fun g hg=>(hown.lt g hg).2);clear HLV;have hz3:w.heap.size+3≤w3.heap.size:=Oo);(go_wp2_with fail);(go_loopw [6] (fun i W=>w3.heap.size≤W.heap.size∧Bw w W∧Blk W w.heap.size 26 #[.slice A n c,.slice B m d,.slice C k e]∧Blk W (w.heap.size+1) 121 #[.slice none 0 0,.slice none 0 0,.slice none 0 0]∧Own W (w.heap.size+3) 196 3 A1 n c1 (Qbb N.vs)∧Own W w2.heap.size 197 3 A3' m c3' (Qbb N.ar)∧∃ (j:Nat) (C3:Oz) (e3:Nat) (xs:List Value),j≤k∧i=.int .i64 j∧Blk W (w.heap.size+2) 121 #[.slice A1 n c1,.slice A3' m c3',.slice C3 j e3]∧YwO W w3.heap.size C3 j e3 xs (N.ts.take j)) (fun i _=>k-(intOf i).toNat));case atStart=>exact ⟨Zn _,hbl,hJ,hR,hVo,hown,0,none,0,[],Nat.zero_le _,rfl,hK0,by simpa using YwO.nil _ _⟩
       case round =>
        clear hbl hJ hR hown hK0 j0 j1 j2 k0 k1 k2 hj hVo hszr;obtain ⟨hszr,hbl,hJ,hR,hVo,hAo,j,C3,e3,xs,hj,rfl,hK0,hown⟩:=hrel;obtain ⟨j0,j1,j2⟩:=hJ.three;by_cases hlt:j<k
        · obtain ⟨sb,so,t,rfl,ht,cx,cy,A',n',c',cz,hr,hc1',hc2'⟩:=HY.o.at_ hlt
          have HN:=Zh (show N.ts.take (j+1)=N.ts.take j ++[t] by
           rw [Yf (Zs ht).1,(Zs ht).2])
          have HTC:=Zh (show ∀ V,Bw w V→Calls prog 109 #[.agg #[.int .i64 t.ins,.int .i64 t.outs,.slice A' n' c']] V (fun e w'=>∃ A2 c2,e=.returned (.agg #[.int .i64 t.ins,.int .i64 t.outs,.slice A2 n' c2])∧Own w' V.heap.size 2 1 A2 n' c2 (Qae t.costs)∧Bw V w') from
           fun V hV=>Rib A' n' c' t V (hr.below hV) (by have:=HC.o t (Zm ht);rw [hr.1] at this;exact this))
          have dx:=Zc hbl (Zn _) cx;have dy:=Zc hbl (Zn _) cy;have dz:=Zc hbl (Zn _) cz
          have HSX:=Zh (show ∀ V,Below (w.heap.size+2) wr V→V.cell? ⟨w.heap.size,2,none⟩=some (.slice (some ⟨sb,so,none⟩) k e)∧V.cell? ⟨sb,so+j*3,none⟩=some (.int .i64 t.ins)∧V.cell? ⟨sb,so+j*3+1,none⟩=some (.int .i64 t.outs)∧V.cell? ⟨sb,so+j*3+2,none⟩=some (.slice A' n' c') from
           fun V hb=>⟨(hb.cell Sn).trans j2,(hb.cell (by have:=Qaj cx;simp only at this ⊢;omega)).trans dx,(hb.cell (by have:=Qaj cx;simp only at this ⊢;omega)).trans dy,(hb.cell (by have:=Qaj cx;simp only at this ⊢;omega)).trans dz⟩)
          (have i3:0≤(j:Int):=Oo);(have i4:(j:Int)<k:=Oo);have hsz:w3.heap.size≤wr.heap.size:=hszr;clear hr ht cx cy cz dx dy dz j0 j1 hc1' hc2';(go_wp2_with fail);refine wp_region_held_drew (S:=fun V=>Below (w.heap.size+2) wr V) Kf (Zr _ _).drew (fun _=>?_);refine tz 0 76 ?_;refine tzd 2 78 ?_;refine tz 6 82 ?_;refine wpAnyH_ready (rs:=[1,7]) Kf Sm ?_;refine AllReadyH.cons (o:=_) rfl (fun K hK=>?_) (AllReadyH.cons (o:=_) rfl (fun K hK=>?_) AllReadyH.nil)
          focus
           have k3a:=hK0.three;obtain ⟨k3a,k3b,k3c⟩:=k3a;go_simp;refine hK.out _ _ (Zr _ _).drew (fun _=>?_);clear hK K k3a k3b k3c;refine Zk 7 (fun K hK=>?_);go_simp;with_reducible refine (HTC.o _ Qag).mono ?_
           rintro r w4 ⟨A2,c2,rfl,hrc,hb4⟩;have hbr4:Bw wr w4:=Zb Qag hb4;clear hb4
           go_wp2_with fail
           refine hK.out _ _ (hbr4.mono Oo) (fun _=>?_);clear hK K;refine Zk 8 (fun K hK=>?_);go_simp;refine hK.out _ _ (Below.alloc (hbr4.mono Oo) (by have:=hbr4.size;omega) _) (fun _=>?_);clear hK K
          rotate_left
          focus
           go_simp;with_reducible refine (HTC.o _ Qag).mono ?_
           rintro r w4 ⟨A2,c2,rfl,hrc,hb4⟩;have hbr4:Bw wr w4:=Zb Qag hb4;clear hb4
           go_wp2_with fail
           refine hK.out _ _ (hbr4.mono Oo) (fun _=>?_);clear hK K;refine wpAnyH_ready (rs:=[1,8]) Kf Sm ?_;refine AllReadyH.cons (o:=_) rfl (fun K hK=>?_) (AllReadyH.cons (o:=_) rfl (fun K hK=>?_) AllReadyH.nil)
           focus
            have k3a:=(hK0.below hbr4 hK0.lt).three;obtain ⟨k3a,k3b,k3c⟩:=k3a;go_simp;refine hK.out _ _ (hbr4.mono Oo) (fun _=>?_);clear hK K k3a k3b k3c;refine Zk 8 (fun K hK=>?_);go_simp;refine hK.out _ _ (Below.alloc (hbr4.mono Oo) (by have:=hbr4.size;omega) _) (fun _=>?_);clear hK K
           rotate_left
           focus
            go_simp;refine hK.out _ _ (Below.alloc (hbr4.mono Oo) (by have:=hbr4.size;omega) _) (fun _=>?_);clear hK K;have k3a:=fun o=>((hK0.below hbr4 hK0.lt).alloc o).three.1
            have k3b:=fun o=>((hK0.below hbr4 hK0.lt).alloc o).three.2.1
            have k3c:=fun o=>((hK0.below hbr4 hK0.lt).alloc o).three.2.2
            refine Zk 1 (fun K hK=>?_);go_simp;refine hK.out _ _ (Below.alloc (hbr4.mono Oo) (by have:=hbr4.size;omega) _) (fun _=>?_);clear hK K k3a k3b k3c
          all_goals
           have hrc:Own w4 wr.heap.size 2 1 A2 n' c2 (Qae t.costs):=hrc;have hW:∃ W,W=w4.alloc (.cells #[.int .i64 t.ins,.int .i64 t.outs,.slice A2 n' c2] 198):=⟨_,rfl⟩;obtain ⟨W,hW⟩:=hW;rw [←hW];have hb4W:Bw w4 W:=by rw [hW];exact Qag
           have hrdW:Rds W 3 (some ⟨w4.heap.size,0,none⟩) 1 [.int .i64 t.ins,.int .i64 t.outs,.slice A2 n' c2]:=by rw [hW];exact (Blk.new w4 198 #[.int .i64 t.ins,.int .i64 t.outs,.slice A2 n' c2]).rds rfl
           clear hW;have hbrW:Bw wr W:=Zb hbr4 hb4W;have hyW:=hown.below hbrW;have hVW:=hVo.below hbrW;have hAW:=hAo.below hbrW;have hbW:Below (w.heap.size+2) wr W:=hbrW.mono Oo;have hblW:Bw w W:=Zb hbl hbrW;have hJW:=hJ.below hbrW hJ.lt;have hRW:=hR.below hbrW hR.lt;have hKW:=hK0.below hbrW hK0.lt;have hcW:=hrc.rds.rdI.below hb4W
           have hclW:∀ g,Qaa A2=some g→w3.heap.size≤g∧g<W.heap.size∧Qaa C3≠some g:=fun g hg=>by
            have h1:=hrc.lt g hg;refine ⟨Oo,Yu h1.2 hb4W.size,fun e=>?_⟩;have h2:=(hown.1.lt g e).2;omega
           have hcapW:=hrc.cap;have hcapM:=hrc.capMax;have hWsz:w3.heap.size≤W.heap.size:=by have:=hbrW.size;omega
           have HYY:=Zh hyW;have hownY:=hyW.1
           have HONE:=Zh (show ∀ u∈[Value.int .i64 t.ins,.int .i64 t.outs,.slice A2 n' c2],u.oneCell'=true from fun u hu=>by
            simp at hu
            rcases hu with rfl|rfl|rfl <;> rfl)
           clear hyW;refine Zk 9 (fun K hK=>?_);with_reducible refine Qbc (some 85) rfl rfl (.tmp 77) (.tmp 84) 119 rfl 198 _ 3 40 Quj underlying119 rfl Oo rfl rfl hownY hrdW HONE.o Oo Oo hWsz ?_
           intro A' c' w' hown' hg hat;have hb5:Below (w.heap.size+2) wr w':=Zo hbW hg (hownY.mono Oo) Oo;have hb6:Bw w w':=Zo hblW hg (hownY.mono Oo) Oo;have hJ':=hJW.grown hg (hownY.ne Oo);have hR':=hRW.grown hg (hownY.ne Oo);have hK':=hKW.grown hg (hownY.ne Oo);have hV':=hVW.far hg (Own.apart HLT.o hownY);have hA':=hAW.far hg (Own.apart HLA.o hownY);have HYN:=Zh (HYY.o.push hown' hg hat hcW hclW hcapW hcapM);clear hownY hrdW hbW hblW hJW hRW hKW hg hVW hAW hclW hcW hown' hat HYY hbrW hb4W hcapW hcapM;refine hK.out _ _ hb5 (fun _=>?_);clear hK K;simp only [Act.put,Yi,Yj,Yk];refine tz 10 86 ?_;have k3':=hK'.three;have kf':=hK'.frozen 2;obtain ⟨k3a,k3b,k3c⟩:=k3';refine Zk 11 (fun K hK=>?_);go_simp;refine hK.out _ _ (hb5.setCell Sn _) (fun _=>?_);clear hK K;refine Zd ?_;have HK2:=Zh (hK'.set_ 2 (.slice A' (j+1) c'));have HV2:=Zh (hV'.far (Qac w' (w.heap.size+2) 2 (.slice A' (j+1) c')) (.inr (hV'.ne Oo)));have HA2:=Zh (hA'.far (Qac w' (w.heap.size+2) 2 (.slice A' (j+1) c')) (.inr (hA'.ne Oo)));have HY2:=Zh (HYN.o.far (Qac w' (w.heap.size+2) 2 (.slice A' (j+1) c')) Oo);clear hV' hA' hK' k3a k3b k3c kf'
           go_wp2_with fail
           go_roundw
           case rel=>exact ⟨(by have:=hb5.size;simp [World.setCell];omega),Qag,Qiq,Qiq,HV2.o,HA2.o,j+1,A',c',_,Oo,by go_num,HK2.o,by rw [HN.o];exact HY2.o⟩
           case measure=>simp [intOf];omega
        {(obtain rfl:k=j:=Oo);rw [Ye (by rw [HY.o.1];exact Zn _)] at hown;obtain ⟨q0,q1,q2⟩:=hK0.three;have f0:=hR.frozen 0;have f1:=hR.frozen 1;have f2:=hR.frozen 2;obtain ⟨r0,r1,r2⟩:=hR.three;have HV5:=Zh ((((hVo.far (Qac wr (w.heap.size+1) 0 (.slice A1 n c1)) (.inr (hVo.ne Oo))).far (Qac _ (w.heap.size+1) 1 (.slice A3' m c3')) (.inr (hVo.ne Oo))).far (Qac _ (w.heap.size+1) 2 (.slice C3 k e3)) (.inr (hVo.ne Oo))).rds.rd3);have HA5:=Zh ((((hAo.far (Qac wr (w.heap.size+1) 0 (.slice A1 n c1)) (.inr (hAo.ne Oo))).far (Qac _ (w.heap.size+1) 1 (.slice A3' m c3')) (.inr (hAo.ne Oo))).far (Qac _ (w.heap.size+1) 2 (.slice C3 k e3)) (.inr (hAo.ne Oo))).rds.rd3);have HY5:=Zh ((((hown.far (Qac wr (w.heap.size+1) 0 (.slice A1 n c1)) Oo).far (Qac _ (w.heap.size+1) 1 (.slice A3' m c3')) Oo).far (Qac _ (w.heap.size+1) 2 (.slice C3 k e3)) Oo).rdY);clear hVo hAo hown j0 j1 hR;(go_wp2_with fail);refine bodyPost_ret (v:=.agg #[.slice A1 n c1,.slice A3' m c3',.slice C3 k e3]) (by simp [results,results55,go_sem,r0,r1,r2]) rfl ?_;exact ⟨A1,A3',C3,c1,c3',e3,rfl,⟨HV5.o,HA5.o,HY5.o⟩,Qag⟩}
theorem Qir {g o b:Nat} (e:Qaa (some ⟨g,o,none⟩)=some b):g=b:=by injection e
def TyO (W:World)(B g k:Nat)(ts:List Qgc)(j:Nat):Prop :=
 ∃ cs,Blk W g 198 cs∧cs.size=k*3∧∀ (i:Nat) (t:Qgc),i<j→ts[i]?=some t→∃ (A2:Oz) (n2 c2:Nat),cs[i*3]?=some (.int .i64 t.ins)∧cs[i*3+1]?=some (.int .i64 t.outs)∧cs[i*3+2]?=some (.slice A2 n2 c2)∧RdI W A2 n2 t.costs∧(∀ q,Qaa A2=some q→B≤q∧q<W.heap.size)∧n2≤c2∧c2≤9223372036854775807
theorem TyO.lt {W:World}{B g k j:Nat}{ts:List Qgc}(h:TyO W B g k ts j):g<W.heap.size:=by obtain ⟨cs,h1,_⟩:=h;exact h1.lt
theorem TyO.start {W:World}{B g k:Nat}{ts:List Qgc}{cs:Array Value}(h:Blk W g 198 cs)(hs:cs.size=k*3):TyO W B g k ts 0:=⟨cs,h,hs,fun _ _ hi=>absurd hi (Nat.not_lt_zero _)⟩
theorem TyO.below {W W':World}{B g k j:Nat}{ts:List Qgc}(h:TyO W B g k ts j)(hb:Bw W W'):TyO W' B g k ts j:=by obtain ⟨cs,h1,h2,h3⟩:=h;refine ⟨cs,h1.below hb h1.lt,h2,fun i t hi ht=>?_⟩;obtain ⟨A2,n2,c2,k1,k2,k3,k4,k5,k6⟩:=h3 i t hi ht;exact ⟨A2,n2,c2,k1,k2,k3,k4.below hb,fun q hq=>⟨(k5 q hq).1,Yu (k5 q hq).2 hb.size⟩,k6⟩
theorem TyO.cell {W:World}{B g k j i:Nat}{ts:List Qgc}(h:TyO W B g k ts j)(hi:i<k*3):(∃ v,W.cell? ⟨g,i,none⟩=some v)∧W.frozen? ⟨g,i,none⟩=false:=by exact Kbr
theorem TyO.set {W:World}{B g k j i:Nat}{ts:List Qgc}(h:TyO W B g k ts j)(hi:j*3≤i)(hg:g<B)(v:Value):TyO (W.setCell ⟨g,i,none⟩ v) B g k ts j:=by obtain ⟨cs,h1,h2,h3⟩:=h;refine ⟨_,h1.set_ i v,by simpa using h2,fun i' t hi' ht=>?_⟩;obtain ⟨A2,n2,c2,k1,k2,k3,k4,k5,k6⟩:=h3 i' t hi' ht;refine ⟨A2,n2,c2,by rw [Array.getElem?_setIfInBounds_ne Oo];exact k1,by rw [Array.getElem?_setIfInBounds_ne Oo];exact k2,by rw [Array.getElem?_setIfInBounds_ne Oo];exact k3,k4.far v (fun e=>by have:=(k5 g e).1;omega),fun q hq=>⟨(k5 q hq).1,?_⟩,k6⟩;have:=(k5 q hq).2;simpa [World.setCell] using this
theorem TyO.put {W:World}{B g k j:Nat}{ts:List Qgc}(h:TyO W B g k ts j)(hj:j<k)(hg:g<B)(a b s:Value) :
 TyO (((W.setCell ⟨g,j*3,none⟩ a).setCell ⟨g,j*3+1,none⟩ b).setCell ⟨g,j*3+2,none⟩ s) B g k ts j∧(((W.setCell ⟨g,j*3,none⟩ a).setCell ⟨g,j*3+1,none⟩ b).setCell ⟨g,j*3+2,none⟩ s).cell? ⟨g,j*3,none⟩=some a ∧
  (((W.setCell ⟨g,j*3,none⟩ a).setCell ⟨g,j*3+1,none⟩ b).setCell ⟨g,j*3+2,none⟩ s).cell? ⟨g,j*3+1,none⟩=some b∧(((W.setCell ⟨g,j*3,none⟩ a).setCell ⟨g,j*3+1,none⟩ b).setCell ⟨g,j*3+2,none⟩ s).cell? ⟨g,j*3+2,none⟩=some s:=by
 refine ⟨((h.set (Zn _) hg a).set Oo hg b).set Oo hg s,?_⟩;obtain ⟨cs,h1,h2,h3⟩:=h;have hB:=((h1.set_ (j*3) a).set_ (j*3+1) b).set_ (j*3+2) s;refine ⟨?_,?_,?_⟩
 all_goals
  rw [hB.cell];simp [Array.getElem?_setIfInBounds,h2];omega
theorem TyO.far {W:World}{B g k j b i:Nat}{ts:List Qgc}(h:TyO W B g k ts j)(hb:b<B)(hg:g≠b)(v:Value):TyO (W.setCell ⟨b,i,none⟩ v) B g k ts j:=by obtain ⟨cs,h1,h2,h3⟩:=h;refine ⟨_,h1.far_ hg v,h2,fun i' t hi' ht=>?_⟩;obtain ⟨A2,n2,c2,k1,k2,k3,k4,k5,k6⟩:=h3 i' t hi' ht;refine ⟨A2,n2,c2,k1,k2,k3,k4.far v (fun e=>by have:=(k5 b e).1;omega),fun q hq=>⟨(k5 q hq).1,?_⟩,k6⟩;have:=(k5 q hq).2;simpa [World.setCell] using this
theorem TyO.next {W:World}{B g k j n2 c2:Nat}{ts:List Qgc}{t:Qgc}{A2:Oz}(h:TyO W B g k ts j) (ht:ts[j]?=some t) (k1:W.cell? ⟨g,j*3,none⟩=some (.int .i64 t.ins)) (k2:W.cell? ⟨g,j*3+1,none⟩=some (.int .i64 t.outs)) (k3:W.cell? ⟨g,j*3+2,none⟩=some (.slice A2 n2 c2))
 (k4:RdI W A2 n2 t.costs) (k5:∀ q,Qaa A2=some q→B≤q∧q<W.heap.size) (k6:n2≤c2) (k7:c2≤9223372036854775807):TyO W B g k ts (j+1):=by obtain ⟨cs,h1,h2,h3⟩:=h;refine ⟨cs,h1,h2,fun i t' hi ht'=>?_⟩;by_cases e:i=j;{subst e;rw [ht] at ht';cases ht';rw [h1.cell] at k1 k2 k3;exact ⟨A2,n2,c2,k1,k2,k3,k4,k5,k6,k7⟩};{exact h3 i t' Oo ht'}
theorem TyO.rdY2 {W:World}{B g k:Nat}{ts:List Qgc}{G:Nat→Prop}(h:TyO W B g k ts k)(hl:ts.length=k)(hG:∀ q,B≤q→q<W.heap.size→G q):RdY2 W (msk W G) (some ⟨g,0,none⟩) k ts:=by obtain ⟨cs,h1,h2,h3⟩:=h;refine ⟨hl,fun i t ht=>?_⟩;obtain ⟨A2,n2,c2,k1,k2,k3,k4,k5,k6,k7⟩:=h3 i t (by rw [←hl];exact (Zs ht).1) ht;exact ⟨g,0,rfl,by rw [h1.cell,Yz];exact k1,by rw [h1.cell,Yz];exact k2,A2,n2,c2,by rw [h1.cell,Yz];exact k3,k4.msk (fun q hq=>hG q (k5 q hq).1 (k5 q hq).2),k6,k7⟩
theorem TyO.warm {W:World}{B g k j:Nat}{ts:List Qgc}(h:TyO W B g k ts j):Warm W (some ⟨g,0,none⟩):=fun b hb=>by obtain ⟨cs,h1,h2,h3⟩:=h;cases hb;exact ⟨h1.lt,fun o=>h1.frozen o⟩
theorem Rcu (k:Nat)(hk:k≤1000000):∃ cs:Array Value,cs.size=k*3∧∀ W:World,(Instr.makeSlice 119 (.int .i64 (k:Int)) (.int .i64 (k:Int))).run prog W=.ok (.slice (some ⟨W.heap.size,0,none⟩) k k) (W.alloc (.cells cs 198)):=by obtain ⟨i,hi,hz,hs,hbb⟩:=info_parts Quj;have hb':(i.bytes:Int)*(k:Int)≤281474976710656:=by{rw [hbb];omega};refine ⟨madeCells (Value.agg #[.int .i64 0,.int .i64 0,.slice none 0 0]).cells (k*i.size),by rw [size_madeCells,hs],fun W=>?_⟩;have hr:=run_make (P:=prog) W 119 198 i _ underlying119 hi hz .i64 .i64 k k Oo Oo hb' Oo;simp only [Yl] at hr;exact hr
theorem Qpv (A B C:Oz)(n m k c d e:Nat)(N:Qak)(w:World)(h:Qcp w A B C n m k N)(hn:n≤1000000)(hm:m≤1000000)(hk:k≤1000000)(hc:∀ t∈N.ts,t.costs.length≤1000000) :
 Calls prog 108 #[.agg #[.slice A n c,.slice B m d,.slice C k e]] w fun r w'=>∃ A' B' C' c' d' e',r=.returned (.agg #[.slice A' n c',.slice B' m d',.slice C' k e'])∧Qwk w' (fun b=>w.heap.size≤b∧b<w'.heap.size∧Qaa B'≠some b∧Qaa C'≠some b) A' B' C' n m k N ∧
  (∀ b,Qaa B'=some b∨Qaa C'=some b→w.heap.size≤b)∧n≤c'∧c'≤9223372036854775807∧m≤d'∧d'≤9223372036854775807∧k≤e'∧e'≤9223372036854775807∧Bw w w':=by
 have HV:=Zh h.1;have HA:=Zh h.2.1;have HY:=Zh h.2.2;have HC:=Zh hc;clear h hc;obtain ⟨cs,hcs,hmk⟩:=Rcu k Oo;have HCS:=Zh hcs;clear hcs;go_enter func108,ntmps108
 go_wp2_with fail
 (refine Qai ?_;intro w1 hw1);have hb1:Bw w w1:=by rw [hw1];exact Qag
 have hJ:Blk w1 w.heap.size 121 #[.slice A n c,.slice B m d,.slice C k e]:=by rw [hw1];exact Qbi
 have hR:Blk w1 (w.heap.size+1) 121 #[.slice none 0 0,.slice none 0 0,.slice none 0 0]:=by rw [hw1];exact Qbi
 have hT:TyO w1 (w.heap.size+3) (w.heap.size+2) k N.ts 0:=by rw [hw1];exact TyO.start Qbi HCS.o
 have hsz1:w.heap.size+3≤w1.heap.size:=by rw [hw1];simp
 clear hw1 hmk;go_loopw [13] (fun i W=>w.heap.size+3≤W.heap.size∧Bw w W∧Blk W w.heap.size 121 #[.slice A n c,.slice B m d,.slice C k e]∧Blk W (w.heap.size+1) 121 #[.slice none 0 0,.slice none 0 0,.slice none 0 0]∧∃ j:Nat,j≤k∧i=.int .i64 j∧TyO W (w.heap.size+3) (w.heap.size+2) k N.ts j) (fun i _=>k-(intOf i).toNat)
 case atStart=>exact ⟨hsz1,hb1,hJ,hR,0,Nat.zero_le _,rfl,hT⟩
 case round =>
  clear hsz1 hb1 hJ hR hT;obtain ⟨hsz,hbl,hJ,hR,j,hj,rfl,hT⟩:=hrel;obtain ⟨j0,j1,j2⟩:=hJ.three;by_cases hlt:j<k
  · obtain ⟨sb,so,t,rfl,ht,cx,cy,A',n',c',cz,hr,hc1',hc2'⟩:=HY.o.at_ hlt;have dx:=Zc hbl (Zn _) cx;have dy:=Zc hbl (Zn _) cy;have dz:=Zc hbl (Zn _) cz
    have HTC:=Zh (show ∀ V,Bw w V→Calls prog 165 #[.slice A' n' c'] V (fun e w'=>∃ A2 c2,e=.returned (.slice A2 n' c2)∧Own w' V.heap.size 2 1 A2 n' c2 (Qae t.costs)∧Bw V w') from
     fun V hV=>Rbm A' n' c' _ V (hr.below hV).rdsI (Qaq _) (by have:=HC.o t (Zm ht);rw [hr.1] at this;omega))
    (obtain ⟨⟨v0,x0⟩,f0⟩:=hT.cell (i:=j*3) Oo;obtain ⟨⟨v1,x1⟩,f1⟩:=hT.cell (i:=j*3+1) Oo;obtain ⟨⟨v2,x2⟩,f2⟩:=hT.cell (i:=j*3+2) Oo;have hTlt:=hT.lt;have HT:=Zh ht;have i3:0≤(j:Int):=Oo);(have i4:(j:Int)<k:=Oo);clear hr ht hc1' hc2' cx cy cz;(go_wp2_with fail);(refine Qab ?_;intro w2 hw2);have hT2:TyO w2 (w.heap.size+3) (w.heap.size+2) k N.ts j:=by{rw [hw2];exact (hT.put hlt Oo _ _ _).1.below Qag};(have hb2:Bw w w2:=by rw [hw2];exact Qag);(have hz2:wr.heap.size+1=w2.heap.size:=by rw [hw2];simp [World.setCell]);(have hp:=hT.put hlt Oo (.int .i64 t.ins) (.int .i64 t.outs) (.slice A' n' c');have p0:w2.cell? ⟨w.heap.size+2,j*3,none⟩=some (.int .i64 t.ins):=by rw [hw2];exact Zc Qag (Zn _) hp.2.1);(have p1:w2.cell? ⟨w.heap.size+2,j*3+1,none⟩=some (.int .i64 t.outs):=by rw [hw2];exact Zc Qag (Zn _) hp.2.2.1);(have hJ2:Blk w2 w.heap.size 121 #[.slice A n c,.slice B m d,.slice (some ⟨sb,so,none⟩) k e]:=by rw [hw2];exact (((hJ.far_ Oo _).far_ Oo _).far_ Oo _).alloc _);(have hR2:Blk w2 (w.heap.size+1) 121 #[.slice none 0 0,.slice none 0 0,.slice none 0 0]:=by rw [hw2];exact (((hR.far_ Oo _).far_ Oo _).far_ Oo _).alloc _);(clear hw2 hT hJ hR x0 x1 x2 f0 f1 f2 j0 j1 j2 dx dy dz hp;with_reducible refine (HTC.o w2 hb2).mono ?_);rintro r w3 ⟨A2,c2,rfl,hown,hb3⟩;have hT3:=hT2.below hb3;have p3:=Zc hb3 (Zn _) p0;have p4:=Zc hb3 (Zn _) p1;obtain ⟨⟨v5,x5⟩,f5⟩:=hT3.cell (i:=j*3+2) Oo;have hlt3:=hT3.lt;have hb3':Bw w w3:=Zb hb2 hb3;have hq:=hown.ne (g:=w.heap.size+2) Oo
    have HN:=Zh (show TyO (w3.setCell ⟨w.heap.size+2,j*3+2,none⟩ (.slice A2 n' c2)) (w.heap.size+3) (w.heap.size+2) k N.ts (j+1) from by
     have hC:=Qac w3 (w.heap.size+2) (j*3+2) (.slice A2 n' c2);have hown2:=hown.far hC (.inr hq);refine (hT3.set (i:=j*3+2) Oo Oo (.slice A2 n' c2)).next HT.o ?_ ?_ ?_ hown2.rds.rdI (fun q hq=>?_) hown2.cap hown2.capMax
     · rw [World.cell?_setCell_other _ _ _ _ (fun e=>by injection e with _ e1;omega)]
       exact p3
     · rw [World.cell?_setCell_other _ _ _ _ (fun e=>by injection e with _ e1;omega)]
       exact p4
     · exact World.cell?_setCell_same _ _ _ x5
     · have:=hown2.lt q hq
       exact ⟨Oo,this.2⟩)
    have HJ3:=Zh ((hJ2.below hb3 hJ2.lt).far_ (b:=w.heap.size+2) (o:=j*3+2) Oo (.slice A2 n' c2));have HR3:=Zh ((hR2.below hb3 hR2.lt).far_ (b:=w.heap.size+2) (o:=j*3+2) Oo (.slice A2 n' c2));have HB3:=Zh (show Bw w (w3.setCell ⟨w.heap.size+2,j*3+2,none⟩ (.slice A2 n' c2)) from hb3'.setCell Sm _);have hz3:=hb3.size;clear hT2 hT3 hown p0 p1 p3 p4 hJ2 hR2 hq hb2 hb3 hb3';(go_wp2_with fail);go_roundw;(case rel=>exact ⟨by simp [World.setCell];omega,HB3.o,HJ3.o,HR3.o,j+1,Oo,by go_num,HN.o⟩);case measure=>simp [intOf];omega
  · obtain rfl:k=j:=by omega
    have HCV:=Zh (show ∀ V,Bw w V→Calls prog 166 #[.slice A n c] V (fun e w'=>∃ A2 c2,e=.returned (.slice A2 n c2)∧Own w' V.heap.size 196 3 A2 n c2 (Qbb N.vs)∧Bw V w') from
     fun V hV=>Rbn A n c _ V (HV.o.below hV).rds (Qij _) Oo)
    have HCA:=Zh (show ∀ V,Bw w V→Calls prog 167 #[.slice B m d] V (fun e w'=>∃ A2 c2,e=.returned (.slice A2 m c2)∧Own w' V.heap.size 197 3 A2 m c2 (Qbb N.ar)∧Bw V w') from
     fun V hV=>Rbl B m d _ V (HA.o.below hV).rds (Qij _) Oo)
    have HSX:=Zh (show ∀ V,Blk V w.heap.size 121 #[.slice A n c,.slice B m d,.slice C k e]→V.cell? ⟨w.heap.size,0,none⟩=some (.slice A n c)∧V.cell? ⟨w.heap.size,1,none⟩=some (.slice B m d) from fun V hV=>⟨hV.three.1,hV.three.2.1⟩);clear j0 j1;(go_wp2_with fail);(refine wp_region_held_drew (S:=fun V=>Blk V w.heap.size 121 #[.slice A n c,.slice B m d,.slice C k e]) Kf hJ.drew (fun _=>?_);refine tzb 0 30 ?_;refine tzb 3 33 ?_;refine tz 6 36 ?_;refine Zk 2 (fun K hK=>?_);go_simp;with_reducible refine (HCV.o _ Qag).mono ?_);rintro r w4 ⟨A2,c2,rfl,hvo,hb4⟩;(replace hvo:Own w4 wr.heap.size 196 3 A2 n c2 (Qbb N.vs):=hvo);(replace hb4:Bw wr w4:=(Zr _ wr).drew.trans hb4);have hbw4:Bw w w4:=Zb hbl hb4;have hJ4:=hJ.below hb4 hJ.lt;have hR4:=hR.below hb4 hR.lt;have hl4:=hT.lt;have HTT:=Zh (hT.rdY2 (G:=fun q=>w.heap.size+3≤q∧q<wr.heap.size) HY.o.1 (fun q h1 h2=>⟨h1,h2⟩));have HTW:=Zh hT.warm;clear hJ hR hT;(go_wp2_with fail);(refine hK.out _ _ hJ4 (fun _=>?_);clear hK K;refine Zk 5 (fun K hK=>?_);go_simp;with_reducible refine (HCA.o _ Qag).mono ?_);(rintro r w5 ⟨B2,d2,rfl,hao,hb5⟩;have hbw5:Bw w w5:=Zb hbw4 hb5;have hJ5:=hJ4.below hb5 hJ4.lt;have hR5:=hR4.below hb5 hR4.lt;have hvo5:=hvo.below hb5;have hvb:∀ b,Qaa A2=some b→wr.heap.size≤b∧b<w4.heap.size:=hvo.lt);have hab:=hao.lt;clear hJ4 hR4 hvo;(go_wp2_with fail);refine hK.out _ _ hJ5 (fun _=>?_);clear hK K;refine tz 7 37 ?_;obtain ⟨r0,r1,r2⟩:=hR5.three;have f0:=hR5.frozen 0;have f1:=hR5.frozen 1;have f2:=hR5.frozen 2;have hrlt:=hR5.lt;refine Zk 8 (fun K hK=>?_);go_simp;refine hK.out _ _ (((hJ5.far_ Oo _).far_ Oo _).far_ Oo _) (fun _=>?_);clear hK K;refine Zd ?_;obtain ⟨w6,hw6⟩:=Zx (((w5.setCell ⟨w.heap.size+1,0,none⟩ (.slice A2 n c2)).setCell ⟨w.heap.size+1,1,none⟩ (.slice B2 m d2)).setCell ⟨w.heap.size+1,2,none⟩ (.slice (some ⟨w.heap.size+1+1,0,none⟩) k k));have hk6:∀ b,b≠w.heap.size+1→w6.heap[b]?=w5.heap[b]?:=fun b hb=>by{rw [hw6,Below.heap_setCell _ _ _ _ hb,Below.heap_setCell _ _ _ _ hb,Below.heap_setCell _ _ _ _ hb]};(have hz6:w6.heap.size=w5.heap.size:=by rw [hw6];simp [World.setCell]);have hz4:=hb4.size;have hz5:=hb5.size;have hc0:w6.cell? ⟨w.heap.size+1,0,none⟩=some (.slice A2 n c2)∧w6.cell? ⟨w.heap.size+1,1,none⟩=some (.slice B2 m d2)∧w6.cell? ⟨w.heap.size+1,2,none⟩=some (.slice (some ⟨w.heap.size+1+1,0,none⟩) k k):=by{rw [hw6];exact (((hR5.set_ 0 _).set_ 1 _).set_ 2 _).three};(have hb6:Bw w w6:=by rw [hw6];exact Qag);rw [←hw6];clear hw6 r0 r1 r2 f0 f1 f2 hJ5 hR5;have hv6:Rd3 w6 A2 n N.vs:=hvo5.rds.rd3.keep (fun b hb=>hk6 b (by have:=hvb b hb;omega));have ha6:Rd3 w6 B2 m N.ar:=hao.rds.rd3.keep (fun b hb=>hk6 b (by have:=hab b hb;omega));have hkt:∀ b,w.heap.size+2≤b→b<wr.heap.size→w6.heap[b]?=wr.heap[b]?:=fun b h1 h2=>(hk6 b Oo).trans ((hb5.block b Oo).trans (hb4.block b h2))
    have HR:=Zh (show Qwk w6 (fun b=>w.heap.size≤b∧b<w6.heap.size∧Qaa B2≠some b∧Qaa (some ⟨w.heap.size+1+1,0,none⟩)≠some b) A2 B2 (some ⟨w.heap.size+1+1,0,none⟩) n m k N from by
     refine ⟨hv6.msk (fun b hb=>?_),ha6,?_,?_,?_,fun b hb hG=>hG.2.2.1 hb,fun b hb hG=>hG.2.2.2 hb,fun b hb e=>?_⟩
     · have:=hvb b hb
       exact Kdy
     · refine HTT.o.le (fun b o x hb hc=>Qdz (hkt b ?_ ?_) hc) ?_
       · have:=Qir hb;omega
       · have:=Qir hb;omega
       · refine Le.trans (Qaz.msk (W':=w6) (fun b hb hl=>hkt b Oo hl)) (Qbj (fun b hb=>?_))
         exact Kdy
     · exact hao.warm.keep Oo (fun b hb=>hk6 b (by have:=hab b hb;omega))
     · exact HTW.o.keep Oo (fun b hb=>hkt b (by have:=Qir hb;omega) (by have:=Qir hb;omega))
     · have:=hab b hb
       have:=Qir e;omega)
    have HB:=Zh (show ∀ b,Qaa B2=some b∨Qaa (some ⟨w.heap.size+1+1,0,none⟩)=some b→w.heap.size≤b from fun b hb=>by
     rcases hb with hb|hb
     · have:=hab b hb;omega
     · have:=Qir hb;omega)
    have HCP:=Zh (show n≤c2∧c2≤9223372036854775807∧m≤d2∧d2≤9223372036854775807 from ⟨hvo5.cap,hvo5.capMax,hao.cap,hao.capMax⟩);obtain ⟨r0,r1,r2⟩:=hc0;clear hk6 hkt hv6 ha6 hao hvo5 hvb hab hl4 hrlt hz4 hz5 hz6 hbw4 hbw5 hb4 hb5;(go_wp2_with fail);refine bodyPost_ret (v:=.agg #[.slice A2 n c2,.slice B2 m d2,.slice (some ⟨w.heap.size+1+1,0,none⟩) k k]) (by simp [results,results108,go_sem,r0,r1,r2]) rfl ?_;exact ⟨A2,B2,_,c2,d2,k,rfl,HR.o,HB.o,HCP.o.1,HCP.o.2.1,HCP.o.2.2.1,HCP.o.2.2.2,Oo,Oo,hb6⟩
theorem IkO.far {W W':World}{B g n:Nat}{A:Oz} {ls:Lz} (h:IkO W B g n ls) (hg:W.grownBy W' (Qaa A)) (hA:Qaa A≠some g) (hd:∀ (v:Nat) X m c,W.cell? ⟨g,v,none⟩=some (.slice X m c)→Dj A X):IkO W' B g n ls:=by obtain ⟨h1,h2,cs,h3,h4,h5,h6⟩:=h;refine ⟨h1,h2,cs,h3.grown hg hA,h4,fun v l hl=>?_,h6⟩;obtain ⟨X,c,k1,k2⟩:=h5 v l hl;exact ⟨X,c,k1,k2.far hg (hd v X _ _ (by rw [h3.cell];exact k1)).far⟩
def Ik2 (W:World)(B g1 g2 n:Nat) (l1 l2:Lz):Prop :=
 IkO W B g1 n l1∧IkO W B g2 n l2∧g1≠g2∧∀ (v v':Nat) A m c A' m' c',W.cell? ⟨g1,v,none⟩=some (.slice A m c)→W.cell? ⟨g2,v',none⟩=some (.slice A' m' c')→Dj A A'
theorem Ik2.swap {W:World}{B g1 g2 n:Nat} {l1 l2:Lz} (h:Ik2 W B g1 g2 n l1 l2):Ik2 W B g2 g1 n l2 l1 :=
 ⟨h.2.1,h.1,fun e=>h.2.2.1 e.symm,fun v v' A m c A' m' c' e1 e2=>(h.2.2.2 v' v A' m' c' A m c e2 e1).symm⟩
theorem Ik2.start {W:World}{B g1 g2 n:Nat}(h1:g1<B)(h2:g2<B)(hne:g1≠g2) (b1:Blk W g1 64 (Qbg (.slice none 0 0) n)) (b2:Blk W g2 64 (Qbg (.slice none 0 0) n)):Ik2 W B g1 g2 n (List.replicate n []) (List.replicate n []):=by refine ⟨IkO.start h1 b1,IkO.start h2 b2,hne,fun v v' A m c A' m' c' e1 _=>?_⟩;rw [b1.cell] at e1;have e:=(Array.getElem?_eq_some_iff.1 e1).2;simp [Qbg] at e;obtain ⟨rfl,_,_⟩:=e;exact .inl rfl
theorem Ik2.below {W W':World}{B g1 g2 n:Nat} {l1 l2:Lz} (h:Ik2 W B g1 g2 n l1 l2) (hb:Bw W W'):Ik2 W' B g1 g2 n l1 l2:=by refine ⟨h.1.below hb,h.2.1.below hb,h.2.2.1,fun v v' A m c A' m' c' e1 e2=>?_⟩;rw [hb.cell (p:=⟨g1,v,none⟩) h.1.lt] at e1;rw [hb.cell (p:=⟨g2,v',none⟩) h.2.1.lt] at e2;exact h.2.2.2 v v' A m c A' m' c' e1 e2
theorem Ik2.set {W:World}{B g1 g2 n b i:Nat} {l1 l2:Lz} (h:Ik2 W B g1 g2 n l1 l2) (h1:b≠g1) (h2:b≠g2) (hB:b<B) (v:Value):Ik2 (W.setCell ⟨b,i,none⟩ v) B g1 g2 n l1 l2:=by have hg:=Qac W b i v;refine ⟨h.1.grown hg (fun q e=>by cases e;exact ⟨h1,hB⟩),h.2.1.grown hg (fun q e=>by cases e;exact ⟨h2,hB⟩),h.2.2.1,fun u u' A m c A' m' c' e1 e2=>?_⟩;rw [World.cell?_setCell_other _ _ _ _ (fun e=>h1 (by injection e))] at e1;rw [World.cell?_setCell_other _ _ _ _ (fun e=>h2 (by injection e))] at e2;exact h.2.2.2 u u' A m c A' m' c' e1 e2
theorem IkO.rowAt {W:World}{B g n v m c:Nat}{X:Oz} {ls:Lz} (h:IkO W B g n ls) (hc:W.cell? ⟨g,v,none⟩=some (.slice X m c)):∃ xs,Own W B 3 1 X m c xs:=by obtain ⟨h1,h2,cs,h3,h4,h5,h6⟩:=h;rw [h3.cell] at hc;have hv:=(Array.getElem?_eq_some_iff.1 hc).1;obtain ⟨A,c',k1,k2⟩:=h5 v _ (Zg (show v<ls.length by omega));rw [hc] at k1;cases k1;exact ⟨_,k2⟩
theorem Ik2.push {W w':World}{B g1 g2 n u c c':Nat}{A A':Oz} {l1 l2:Lz} {l:Iz} {k:Int} (h:Ik2 W B g1 g2 n l1 l2) (hl:l1[u]?=some l) (hc:W.cell? ⟨g1,u,none⟩=some (.slice A l.length c))
 (hown:Own w' B 3 1 A' (l.length+1) c' (Qae l ++Qae [k])) (hg:W.grownBy w' (Qaa A)) (hat:Qaa A'=Qaa A∨Qaa A'=some W.heap.size) :
 Ik2 (w'.setCell ⟨g1,u,none⟩ (.slice A' (l.length+1) c')) B g1 g2 n (l1.set u (l ++[k])) l2:=by
 obtain ⟨h1,h2,hne,h3⟩:=h;obtain ⟨xs,hA⟩:=h1.rowAt hc;have hB1:g1<B:=h1.2.1
 have hB2:g2<B:=h2.2.1
 have hA2:Qaa A≠some g2:=hA.ne hB2;have hA1:Qaa A≠some g1:=hA.ne hB1;have hd:∀ (v:Nat) X m d,W.cell? ⟨g2,v,none⟩=some (.slice X m d)→Dj A X:=fun v X m d e=>h3 u v _ _ _ _ _ _ hc e
 have hcell2:∀ v,w'.cell? ⟨g2,v,none⟩=W.cell? ⟨g2,v,none⟩:=fun v=>World.cell?_of_block (hg.block g2 h2.lt (fun e=>hA2 e.symm))
 have hcell1:∀ v,w'.cell? ⟨g1,v,none⟩=W.cell? ⟨g1,v,none⟩:=fun v=>World.cell?_of_block (hg.block g1 h1.lt (fun e=>hA1 e.symm))
 refine ⟨h1.push hl hc hown hg hat,(h2.far hg hA2 hd).grown (Qac _ _ _ _) (fun q e=>by cases e;exact ⟨hne,hB1⟩),hne,fun v v' X m d X' m' d' e1 e2=>?_⟩;rw [World.cell?_setCell_other _ _ _ _ (fun e=>hne (by injection e)),hcell2] at e2;by_cases e:u=v;{subst e;rw [World.cell?_setCell_same _ _ _ (by rw [hcell1];exact hc)] at e1;cases e1;obtain ⟨ys,hX⟩:=h2.rowAt e2;exact (hd v' _ _ _ e2).next hX hat};{rw [World.cell?_setCell_other _ _ _ _ (fun e'=>e (by injection e')),hcell1] at e1;exact h3 v v' _ _ _ _ _ _ e1 e2}
def PlO (W:World)(g m:Nat)(ar:List Tri)(j:Nat):Prop :=
 ∃ cs,Blk W g 278 cs∧cs.size=m*2∧∀ (i:Nat) (a:Tri),i<j→ar[i]?=some a→cs[i*2]?=some (.int .i64 (Qje ar i a).1)∧cs[i*2+1]?=some (.int .i64 (Qje ar i a).2)
theorem PlO.start {W:World}{g m:Nat}{ar:List Tri}{cs:Array Value}(h:Blk W g 278 cs)(hs:cs.size=m*2):PlO W g m ar 0:=⟨cs,h,hs,fun _ _ hi=>absurd hi (Nat.not_lt_zero _)⟩
theorem PlO.lt {W:World}{g m j:Nat}{ar:List Tri}(h:PlO W g m ar j):g<W.heap.size:=by obtain ⟨cs,h1,_⟩:=h;exact h1.lt
theorem PlO.grown {W W':World}{g m j:Nat}{ar:List Tri}{r:Option Nat}(h:PlO W g m ar j)(hg:W.grownBy W' r)(hr:r≠some g):PlO W' g m ar j:=by obtain ⟨cs,h1,h2⟩:=h;exact ⟨cs,h1.grown hg hr,h2⟩
theorem PlO.below {W W':World}{g m j:Nat}{ar:List Tri}(h:PlO W g m ar j)(hb:Bw W W'):PlO W' g m ar j:=by obtain ⟨cs,h1,h2⟩:=h;exact ⟨cs,h1.below hb h1.lt,h2⟩
theorem PlO.cell {W:World}{g m j i:Nat}{ar:List Tri}(h:PlO W g m ar j)(hi:i<m*2):(∃ v,W.cell? ⟨g,i,none⟩=some v)∧W.frozen? ⟨g,i,none⟩=false:=by exact Kbr
theorem PlO.next {W:World}{g m j:Nat}{ar:List Tri}{a:Tri}(h:PlO W g m ar j)(hj:j<m) (ha:ar[j]?=some a):PlO ((W.setCell ⟨g,j*2,none⟩ (.int .i64 (Qje ar j a).1)).setCell ⟨g,j*2+1,none⟩ (.int .i64 (Qje ar j a).2)) g m ar (j+1):=by obtain ⟨cs,h1,h2,h3⟩:=h;refine ⟨_,(h1.set_ _ _).set_ _ _,by simpa using h2,fun i x hi hx=>?_⟩;by_cases e:i=j;{subst e;rw [ha] at hx;cases hx;refine ⟨?_,?_⟩;{rw [Array.getElem?_setIfInBounds_ne Oo,Array.getElem?_setIfInBounds_self_of_lt Oo]};{rw [Array.getElem?_setIfInBounds_self_of_lt (by rw [Array.size_setIfInBounds];omega)]}};{rw [Array.getElem?_setIfInBounds_ne Oo,Array.getElem?_setIfInBounds_ne Oo,Array.getElem?_setIfInBounds_ne Oo,Array.getElem?_setIfInBounds_ne Oo];exact h3 i x Oo hx}
theorem PlO.rdP {W:World}{g m:Nat}{ar:List Tri}(h:PlO W g m ar m)(hl:ar.length=m):RdP W (some ⟨g,0,none⟩) m (plcs ar):=by obtain ⟨cs,h1,h2,h3⟩:=h;refine ⟨by rw [Rah];exact hl,fun i x hx=>?_⟩;have hi:=(Zs hx).1;rw [Rah] at hi;have ha:ar[i]?=some ar[i]:=Zg hi;rw [Qsn ha] at hx;cases hx;obtain ⟨k1,k2⟩:=h3 i _ Oo ha;exact ⟨g,0,rfl,by rw [h1.cell,Yz];exact k1,by rw [h1.cell,Yz];exact k2⟩
theorem infoPl:(Tryz.prog.info? 278).map (fun i=>(i.zero,i.size,i.bytes))=some (some (.agg #[.int .i64 0,.int .i64 0]),2,16):=Kf
theorem Qhj:(Tryz.prog.info? 64).map (fun i=>(i.zero,i.size,i.bytes))=some (some (.slice none 0 0),1,24):=Kf
theorem Rct (k:Nat)(hk:k≤1000000):∃ cs:Array Value,cs.size=k*2∧∀ W:World,(Instr.makeSlice 151 (.int .i64 (k:Int)) (.int .i64 (k:Int))).run prog W=.ok (.slice (some ⟨W.heap.size,0,none⟩) k k) (W.alloc (.cells cs 278)):=by obtain ⟨i,hi,hz,hs,hbb⟩:=info_parts infoPl;have hb':(i.bytes:Int)*(k:Int)≤281474976710656:=by{rw [hbb];omega};refine ⟨madeCells (Value.agg #[.int .i64 0,.int .i64 0]).cells (k*i.size),by rw [size_madeCells,hs],fun W=>?_⟩;have hr:=run_make (P:=prog) W 151 278 i _ underlying151 hi hz .i64 .i64 k k Oo Oo hb' Oo;simp only [Yl] at hr;exact hr
theorem Qqs (n:Nat)(hn:n≤1000000)(W:World):(Instr.makeSlice 27 (.int .i64 (n:Int)) (.int .i64 (n:Int))).run prog W=.ok (.slice (some ⟨W.heap.size,0,none⟩) n n) (W.alloc (.cells (Qbg (.slice none 0 0) n) 64)) :=
 Qcv (P:=prog) 27 64 (.slice none 0 0) 24 Qhj underlying27 rfl n Oo Oo .i64 .i64 W
structure Got3 (W:World) (n m:Nat) (cs:Array Value) (i o p:Nat) (w':World):Prop where
 sz:w'.heap.size=W.heap.size+3
 io:i≠o
 ip:i≠p
 op:o≠p
 li:W.heap.size≤i∧i<W.heap.size+3
 lo:W.heap.size≤o∧o<W.heap.size+3
 lp:W.heap.size≤p∧p<W.heap.size+3
 bi:Blk w' i 64 (Qbg (.slice none 0 0) n)
 bo:Blk w' o 64 (Qbg (.slice none 0 0) n)
 bp:Blk w' p 278 cs
 bl:Bw W w'
def Qrb (W:World)(n m:Nat)(cs:Array Value)(v1 v2 v3:Value)(w':World):Prop:=∃ i o p:Nat,v1=.slice (some ⟨i,0,none⟩) n n∧v2=.slice (some ⟨o,0,none⟩) n n∧v3=.slice (some ⟨p,0,none⟩) m m∧Got3 W n m cs i o p w'
theorem Qrb.of {W:World}{n m:Nat}{cs:Array Value}{w':World}(i o p:Nat)(h:Got3 W n m cs i o p w'):Qrb W n m cs (.slice (some ⟨i,0,none⟩) n n) (.slice (some ⟨o,0,none⟩) n n) (.slice (some ⟨p,0,none⟩) m m) w':=⟨i,o,p,rfl,rfl,rfl,h⟩
