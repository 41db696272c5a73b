/- Parts of the proof: Tw. -/
import Derived.Test.YthoagdpakddbdaaGreatDoorD1
import Derived.Test.YthoagdpakddbdaaGreatDoorD13
namespace Go.Proofs.YthoagdpakddbdaaGreatDoor
open Go.RowKit Go.Proofs.Tryz
attribute [local go_sem ↓] Go.wp_at_zero Go.wp_at_succ
set_option maxHeartbeats 4000000 in
set_option maxRecDepth 20000 in
theorem Qsb (Q:Option Addr)(L cq:Nat) (ls:List (List Int)) (w:World) (h:RdT w Q L ls) (hL:L≤1000000) (hc:∀ l∈ls,l.length≤1000000) :
 Calls prog 75 #[.agg #[.slice Q L cq]] w fun r w'=>∃ Q' cq',r=.returned (.agg #[.slice Q' L cq'])∧RdT (msk w' (fun b=>w.heap.size≤b∧b<w'.heap.size)) Q' L ls∧L≤cq'∧cq'≤9223372036854775807∧Below w.heap.size w w':=by
 have HT:=Zh h;have HC:=Zh hc;clear h hc
 go_enter func75,ntmps75
 go_wp2_with fail
 (refine Qag ?_;intro w1 hw1)
 have hb1:Below w.heap.size w w1:=by rw [hw1];exact Qae
 have hJ:Blk w1 w.heap.size 89 #[.slice Q L cq]:=by rw [hw1];exact Qay
 have hR:Blk w1 (w.heap.size+1) 89 #[.slice none 0 0]:=by rw [hw1];exact Qay
 have hK0:Blk w1 (w.heap.size+2) 89 #[.slice none 0 0]:=by rw [hw1];exact Qay
 clear hw1
 go_loopw [9] (fun i W=>Below w.heap.size w W∧Blk W w.heap.size 89 #[.slice Q L cq]∧Blk W (w.heap.size+1) 89 #[.slice none 0 0]∧∃ (j:Nat) (A3:Option Addr) (c3:Nat) (xs:List Value),j≤L∧i=.int .i64 j∧Blk W (w.heap.size+2) 89 #[.slice A3 j c3]∧RwL W (w.heap.size+3) A3 j c3 xs (ls.take j)) (fun i _=>L-(intOf i).toNat)
 case atStart=>exact ⟨hb1,hJ,hR,0,none,0,[],Nat.zero_le _,rfl,hK0,by simpa using RwL.nil _ _⟩
 case round =>
  clear hb1 hJ hR hK0;obtain ⟨hbl,hJ,hR,j,A3,c3,xs,hj,rfl,hK0,hown⟩:=hrel;have j0:=hJ.cell 0;simp only [List.getElem?_toArray,List.getElem?_cons_zero] at j0
  by_cases hlt:j<L
  · obtain ⟨sb,so,Ar,m,cr,l,rfl,hl,hcl,hr,hq1,hq2⟩:=HT.out.at_ hlt
    have HN:=Zh (show ls.take (j+1)=ls.take j ++[l] by
     rw [List.take_succ_eq_append_getElem (Zs hl).1,(Zs hl).2])
    have hm:m≤1000000:=by have:=HC.out l (Zm hl);rw [hr.1] at this;exact this
    have dcl:=Zc hbl (Zn _) hcl;have HRR:=Zh (hr.below hbl);have i3:(0:Int)≤(j:Int):=by omega
    have i4:(j:Int)<(L:Int):=by omega
    have hsz:w.heap.size+3≤wr.heap.size:=by have:=hK0.lt;omega
    clear hr hl hcl hq1 hq2
    have HTC:=Zh (show ∀ V,Below wr.heap.size wr V→Calls prog 79 #[.slice Ar m cr] V (fun e w'=>∃ A2 c2,e=.returned (.slice A2 m c2)∧Own w' V.heap.size 3 1 A2 m c2 (Qad l)∧Below V.heap.size V w') from
     fun V hV=>Qjt Ar m cr l V (HRR.out.below hV) hm)
    go_wp2_with fail
    refine wp_region_held_drew (S:=fun V=>Below (w.heap.size+2) wr V) (by kernel_rfl) (Zr _ _).drew (fun _=>?_);refine tz 0 13 ?_;refine tz 2 15 ?_;refine wpAnyH_ready (rs:=[1,3]) (by kernel_rfl) (by simp) ?_;refine AllReadyH.cons (o:=_) rfl (fun K hK=>?_) (AllReadyH.cons (o:=_) rfl (fun K hK=>?_) AllReadyH.nil)
    · have k3a:=hK0.cell 0
      simp only [List.getElem?_toArray,List.getElem?_cons_zero] at k3a;go_simp;refine hK.out _ _ (Zr _ _).drew (fun _=>?_);clear hK K k3a;refine Zk 3 (fun K hK=>?_);go_simp;with_reducible refine (HTC.out _ Qae).mono ?_
      rintro r w4 ⟨A2,c2,rfl,hrc,hb4⟩;have hrc:Own w4 wr.heap.size 3 1 A2 m c2 (Qad l):=hrc;have hbr4:Below wr.heap.size wr w4:=Zb Qae hb4;clear hb4
      go_wp2_with fail
      refine hK.out _ _ (hbr4.mono (by omega)) (fun _=>?_);clear hK K;refine Zk 4 (fun K hK=>?_);go_simp;refine hK.out _ _ (Below.alloc (hbr4.mono (by omega)) (by have:=hbr4.size;omega) _) (fun _=>?_);clear hK K;obtain ⟨W,hW⟩:∃ W,W=w4.alloc (.cells #[.slice A2 m c2] 93):=⟨_,rfl⟩;rw [←hW];have hb4W:Below w4.heap.size w4 W:=by rw [hW];exact Qae
      have hrdW:Rds W 1 (some ⟨w4.heap.size,0,none⟩) 1 [.slice A2 m c2]:=by rw [hW];exact (Blk.new w4 93 #[.slice A2 m c2]).rds rfl
      clear hW;have hbrW:Below wr.heap.size wr W:=Zb hbr4 hb4W;have hcW:=hrc.rds.rdI.below hb4W;have hloW:∀ g,Qab A2=some g→wr.heap.size≤g∧g<W.heap.size:=fun g hg=>⟨(hrc.lt g hg).1,Nat.lt_of_lt_of_le (hrc.lt g hg).2 hb4W.size⟩
      have hcapW:=hrc.cap;have hcapM:=hrc.capMax;have hbrW:Below wr.heap.size wr W:=hbrW;have hyW:=hown.below hbrW;have hbW:Below (w.heap.size+2) wr W:=hbrW.mono (by omega);have hblW:Below w.heap.size w W:=Zb hbl hbrW;have hJW:=hJ.below hbrW hJ.lt;have hRW:=hR.below hbrW hR.lt;have hKW:=hK0.below hbrW hK0.lt
      have hclW:∀ g,Qab A2=some g→w.heap.size+3≤g∧g<W.heap.size∧Qab A3≠some g:=fun g hg=>by
       have h1:=hloW g hg;refine ⟨by omega,h1.2,fun e=>?_⟩;have h2:=(hown.1.lt g e).2;omega
      have hWsz:w.heap.size+3≤W.heap.size:=by have:=hbrW.size;omega
      have HYY:=Zh hyW;have hownY:=hyW.1;clear hyW;refine Zk 5 (fun K hK=>?_);with_reducible refine Qal (some 18) rfl rfl (.tmp 14) (.tmp 17) 27 rfl 93 _ 1 24 Qhb underlying27 rfl (by omega) rfl rfl hownY hrdW (Qcd _ _ _) (by omega) (by omega) hWsz ?_
      intro A' c' w' hown' hg hat;have hb5:Below (w.heap.size+2) wr w':=Bel.grownOwn hbW hg (hownY.mono (by omega)) (by omega);have hb6:Below w.heap.size w w':=Bel.grownOwn hblW hg (hownY.mono (by omega)) (by omega);have hJ':=hJW.grown hg (hownY.ne (by omega));have hR':=hRW.grown hg (hownY.ne (by omega));have hK':=hKW.grown hg (hownY.ne (by omega));have HYN:=Zh (HYY.out.push hown' hg hat hcW hclW hcapW hcapM);clear hownY hrdW hbW hblW hJW hRW hKW hg hclW hcW hown' hat HYY hbrW hcapW hcapM;refine hK.out _ _ hb5 (fun _=>?_);clear hK K;simp only [Act.put,List.setIfInBounds_toArray,List.set_cons_zero,List.set_cons_succ];refine tz 6 19 ?_;have k3':=hK'.cell 0;simp only [List.getElem?_toArray,List.getElem?_cons_zero] at k3';have kf':=hK'.frozen 0;refine Zk 7 (fun K hK=>?_);go_simp;refine hK.out _ _ (hb5.setCell (by simp only;omega) _) (fun _=>?_);clear hK K;refine Zd ?_;have HK2:=Zh (hK'.set_ 0 (.slice A' (j+1) c'));have HY2:=Zh (HYN.out.far (Qaa w' (w.heap.size+2) 0 (.slice A' (j+1) c')) (by omega));have HB2:=Zh (show Below w.heap.size w (w'.setCell ⟨w.heap.size+2,0,none⟩ (.slice A' (j+1) c')) from hb6.setCell (by simp only;omega) _)
      have HJ2:=Zh (hJ'.far_ (b:=w.heap.size+2) (o:=0) (by omega) (.slice A' (j+1) c'));have HR2:=Zh (hR'.far_ (b:=w.heap.size+2) (o:=0) (by omega) (.slice A' (j+1) c'));clear hK' k3' kf' hJ' hR'
      go_wp2_with fail
      go_roundw
      case rel=>exact ⟨HB2.out,HJ2.out,HR2.out,j+1,A',c',_,by omega,by go_num,HK2.out,by rw [HN.out];exact HY2.out⟩
      case measure=>simp [intOf];omega
    · go_simp
      with_reducible refine (HTC.out _ Qae).mono ?_
      rintro r w4 ⟨A2,c2,rfl,hrc,hb4⟩;have hrc:Own w4 wr.heap.size 3 1 A2 m c2 (Qad l):=hrc;have hbr4:Below wr.heap.size wr w4:=Zb Qae hb4;clear hb4
      go_wp2_with fail
      refine hK.out _ _ (hbr4.mono (by omega)) (fun _=>?_);clear hK K;refine wpAnyH_ready (rs:=[1,4]) (by kernel_rfl) (by simp) ?_;refine AllReadyH.cons (o:=_) rfl (fun K hK=>?_) (AllReadyH.cons (o:=_) rfl (fun K hK=>?_) AllReadyH.nil)
      · have k3a:=(hK0.below hbr4 hK0.lt).cell 0
        simp only [List.getElem?_toArray,List.getElem?_cons_zero] at k3a;go_simp;refine hK.out _ _ (hbr4.mono (by omega)) (fun _=>?_);clear hK K k3a;refine Zk 4 (fun K hK=>?_);go_simp;refine hK.out _ _ (Below.alloc (hbr4.mono (by omega)) (by have:=hbr4.size;omega) _) (fun _=>?_);clear hK K;obtain ⟨W,hW⟩:∃ W,W=w4.alloc (.cells #[.slice A2 m c2] 93):=⟨_,rfl⟩;rw [←hW];have hb4W:Below w4.heap.size w4 W:=by rw [hW];exact Qae
        have hrdW:Rds W 1 (some ⟨w4.heap.size,0,none⟩) 1 [.slice A2 m c2]:=by rw [hW];exact (Blk.new w4 93 #[.slice A2 m c2]).rds rfl
        clear hW;have hbrW:Below wr.heap.size wr W:=Zb hbr4 hb4W;have hcW:=hrc.rds.rdI.below hb4W;have hloW:∀ g,Qab A2=some g→wr.heap.size≤g∧g<W.heap.size:=fun g hg=>⟨(hrc.lt g hg).1,Nat.lt_of_lt_of_le (hrc.lt g hg).2 hb4W.size⟩
        have hcapW:=hrc.cap;have hcapM:=hrc.capMax;have hbrW:Below wr.heap.size wr W:=hbrW;have hyW:=hown.below hbrW;have hbW:Below (w.heap.size+2) wr W:=hbrW.mono (by omega);have hblW:Below w.heap.size w W:=Zb hbl hbrW;have hJW:=hJ.below hbrW hJ.lt;have hRW:=hR.below hbrW hR.lt;have hKW:=hK0.below hbrW hK0.lt
        have hclW:∀ g,Qab A2=some g→w.heap.size+3≤g∧g<W.heap.size∧Qab A3≠some g:=fun g hg=>by
         have h1:=hloW g hg;refine ⟨by omega,h1.2,fun e=>?_⟩;have h2:=(hown.1.lt g e).2;omega
        have hWsz:w.heap.size+3≤W.heap.size:=by have:=hbrW.size;omega
        have HYY:=Zh hyW;have hownY:=hyW.1;clear hyW;refine Zk 5 (fun K hK=>?_);with_reducible refine Qal (some 18) rfl rfl (.tmp 14) (.tmp 17) 27 rfl 93 _ 1 24 Qhb underlying27 rfl (by omega) rfl rfl hownY hrdW (Qcd _ _ _) (by omega) (by omega) hWsz ?_
        intro A' c' w' hown' hg hat;have hb5:Below (w.heap.size+2) wr w':=Bel.grownOwn hbW hg (hownY.mono (by omega)) (by omega);have hb6:Below w.heap.size w w':=Bel.grownOwn hblW hg (hownY.mono (by omega)) (by omega);have hJ':=hJW.grown hg (hownY.ne (by omega));have hR':=hRW.grown hg (hownY.ne (by omega));have hK':=hKW.grown hg (hownY.ne (by omega));have HYN:=Zh (HYY.out.push hown' hg hat hcW hclW hcapW hcapM);clear hownY hrdW hbW hblW hJW hRW hKW hg hclW hcW hown' hat HYY hbrW hcapW hcapM;refine hK.out _ _ hb5 (fun _=>?_);clear hK K;simp only [Act.put,List.setIfInBounds_toArray,List.set_cons_zero,List.set_cons_succ];refine tz 6 19 ?_;have k3':=hK'.cell 0;simp only [List.getElem?_toArray,List.getElem?_cons_zero] at k3';have kf':=hK'.frozen 0;refine Zk 7 (fun K hK=>?_);go_simp;refine hK.out _ _ (hb5.setCell (by simp only;omega) _) (fun _=>?_);clear hK K;refine Zd ?_;have HK2:=Zh (hK'.set_ 0 (.slice A' (j+1) c'));have HY2:=Zh (HYN.out.far (Qaa w' (w.heap.size+2) 0 (.slice A' (j+1) c')) (by omega));have HB2:=Zh (show Below w.heap.size w (w'.setCell ⟨w.heap.size+2,0,none⟩ (.slice A' (j+1) c')) from hb6.setCell (by simp only;omega) _)
        have HJ2:=Zh (hJ'.far_ (b:=w.heap.size+2) (o:=0) (by omega) (.slice A' (j+1) c'));have HR2:=Zh (hR'.far_ (b:=w.heap.size+2) (o:=0) (by omega) (.slice A' (j+1) c'));clear hK' k3' kf' hJ' hR'
        go_wp2_with fail
        go_roundw
        case rel=>exact ⟨HB2.out,HJ2.out,HR2.out,j+1,A',c',_,by omega,by go_num,HK2.out,by rw [HN.out];exact HY2.out⟩
        case measure=>simp [intOf];omega
      · go_simp
        refine hK.out _ _ (Below.alloc (hbr4.mono (by omega)) (by have:=hbr4.size;omega) _) (fun _=>?_);clear hK K;have k3a:∀ o,(w4.alloc o).cell? ⟨w.heap.size+2,0,none⟩=some (.slice A3 j c3):=fun o=>((hK0.below hbr4 hK0.lt).alloc o).cell 0
        refine Zk 1 (fun K hK=>?_);go_simp;refine hK.out _ _ (Below.alloc (hbr4.mono (by omega)) (by have:=hbr4.size;omega) _) (fun _=>?_);clear hK K k3a;obtain ⟨W,hW⟩:∃ W,W=w4.alloc (.cells #[.slice A2 m c2] 93):=⟨_,rfl⟩;rw [←hW];have hb4W:Below w4.heap.size w4 W:=by rw [hW];exact Qae
        have hrdW:Rds W 1 (some ⟨w4.heap.size,0,none⟩) 1 [.slice A2 m c2]:=by rw [hW];exact (Blk.new w4 93 #[.slice A2 m c2]).rds rfl
        clear hW;have hbrW:Below wr.heap.size wr W:=Zb hbr4 hb4W;have hcW:=hrc.rds.rdI.below hb4W;have hloW:∀ g,Qab A2=some g→wr.heap.size≤g∧g<W.heap.size:=fun g hg=>⟨(hrc.lt g hg).1,Nat.lt_of_lt_of_le (hrc.lt g hg).2 hb4W.size⟩
        have hcapW:=hrc.cap;have hcapM:=hrc.capMax;have hbrW:Below wr.heap.size wr W:=hbrW;have hyW:=hown.below hbrW;have hbW:Below (w.heap.size+2) wr W:=hbrW.mono (by omega);have hblW:Below w.heap.size w W:=Zb hbl hbrW;have hJW:=hJ.below hbrW hJ.lt;have hRW:=hR.below hbrW hR.lt;have hKW:=hK0.below hbrW hK0.lt
        have hclW:∀ g,Qab A2=some g→w.heap.size+3≤g∧g<W.heap.size∧Qab A3≠some g:=fun g hg=>by
         have h1:=hloW g hg;refine ⟨by omega,h1.2,fun e=>?_⟩;have h2:=(hown.1.lt g e).2;omega
        have hWsz:w.heap.size+3≤W.heap.size:=by have:=hbrW.size;omega
        have HYY:=Zh hyW;have hownY:=hyW.1;clear hyW;refine Zk 5 (fun K hK=>?_);with_reducible refine Qal (some 18) rfl rfl (.tmp 14) (.tmp 17) 27 rfl 93 _ 1 24 Qhb underlying27 rfl (by omega) rfl rfl hownY hrdW (Qcd _ _ _) (by omega) (by omega) hWsz ?_
        intro A' c' w' hown' hg hat;have hb5:Below (w.heap.size+2) wr w':=Bel.grownOwn hbW hg (hownY.mono (by omega)) (by omega);have hb6:Below w.heap.size w w':=Bel.grownOwn hblW hg (hownY.mono (by omega)) (by omega);have hJ':=hJW.grown hg (hownY.ne (by omega));have hR':=hRW.grown hg (hownY.ne (by omega));have hK':=hKW.grown hg (hownY.ne (by omega));have HYN:=Zh (HYY.out.push hown' hg hat hcW hclW hcapW hcapM);clear hownY hrdW hbW hblW hJW hRW hKW hg hclW hcW hown' hat HYY hbrW hcapW hcapM;refine hK.out _ _ hb5 (fun _=>?_);clear hK K;simp only [Act.put,List.setIfInBounds_toArray,List.set_cons_zero,List.set_cons_succ];refine tz 6 19 ?_;have k3':=hK'.cell 0;simp only [List.getElem?_toArray,List.getElem?_cons_zero] at k3';have kf':=hK'.frozen 0;refine Zk 7 (fun K hK=>?_);go_simp;refine hK.out _ _ (hb5.setCell (by simp only;omega) _) (fun _=>?_);clear hK K;refine Zd ?_;have HK2:=Zh (hK'.set_ 0 (.slice A' (j+1) c'));have HY2:=Zh (HYN.out.far (Qaa w' (w.heap.size+2) 0 (.slice A' (j+1) c')) (by omega));have HB2:=Zh (show Below w.heap.size w (w'.setCell ⟨w.heap.size+2,0,none⟩ (.slice A' (j+1) c')) from hb6.setCell (by simp only;omega) _)
        have HJ2:=Zh (hJ'.far_ (b:=w.heap.size+2) (o:=0) (by omega) (.slice A' (j+1) c'));have HR2:=Zh (hR'.far_ (b:=w.heap.size+2) (o:=0) (by omega) (.slice A' (j+1) c'));clear hK' k3' kf' hJ' hR'
        go_wp2_with fail
        go_roundw
        case rel=>exact ⟨HB2.out,HJ2.out,HR2.out,j+1,A',c',_,by omega,by go_num,HK2.out,by rw [HN.out];exact HY2.out⟩
        case measure=>simp [intOf];omega
  · obtain rfl:L=j:=by omega
    rw [List.take_of_length_le (by rw [HT.out.1];exact Zn _)] at hown;have q0:=hK0.cell 0;have r0:=hR.cell 0;simp only [List.getElem?_toArray,List.getElem?_cons_zero] at q0 r0;have f0:=hR.frozen 0;have hown2:=hown.far (Qaa wr (w.heap.size+1) 0 (.slice A3 L c3)) (by omega);have HM:=Zh (hown2.rdM (G:=fun b=>w.heap.size≤b∧b<(wr.setCell ⟨w.heap.size+1,0,none⟩ (.slice A3 L c3)).heap.size) (fun b h1 h2=>⟨by omega,h2⟩));have HCP:=Zh (And.intro hown.1.cap hown.1.capMax);clear hown hown2 hR
    go_wp2_with fail
    refine bodyPost_ret (v:=.agg #[.slice A3 L c3]) (by simp [results,results75,go_sem,r0]) rfl ?_;exact ⟨A3,c3,rfl,HM.out,HCP.out.1,HCP.out.2,Qae⟩
end Go.Proofs.YthoagdpakddbdaaGreatDoor
