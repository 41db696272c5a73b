/- Parts of the proof: Po, Md, Ri, ScS. -/
import Derived.Test.YthoagdpakddbdaaGreatDoorK1
import Derived.Test.YthoagdpakddbdaaGreatDoorK2
import Derived.Test.YthoagdpakddbdaaGreatDoorK9
import Derived.Test.YthoagdpakddbdaaGreatDoorK12
import Derived.Test.YthoagdpakddbdaaGreatDoorK13
import Derived.Test.YthoagdpakddbdaaGreatDoorK17
import Derived.Test.YthoagdpakddbdaaGreatDoorK26
namespace Go.Proofs.YthoagdpakddbdaaGreatDoor
open Go.RowKit Go.Proofs.Tryz
attribute [local go_sem ↓] Go.wp_at_zero Go.wp_at_succ
set_option maxHeartbeats 4000000 in
set_option maxRecDepth 20000 in
theorem Qtg (Q:Option Addr)(L cq:Nat) (ls:List (List Int)) (w:World) (h:RdT w Q L ls) (hL:L≤1000000) (hc:∀ l∈ls,l.length≤1000000) :
 Calls prog 36 #[.agg #[.slice Q L cq]] w fun r w'=>∃ Q' cq',r=.returned (.agg #[.slice Q' L cq'])∧RdT (msk w' (fun b=>w.heap.size≤b∧b<w'.heap.size)) Q' L ls∧L≤cq'∧cq'≤9223372036854775807∧Below w.heap.size w w':=by
 have HT:=Zh h;have HC:=Zh hc;clear h hc
 go_enter func36,ntmps36
 go_wp2_with fail
 (refine Qah ?_;intro w1 hw1)
 have hb1:Below w.heap.size w w1:=by rw [hw1];exact Qae
 have hJ:Blk w1 w.heap.size 29 #[.slice Q L cq]:=by rw [hw1];exact Qau
 have hR:Blk w1 (w.heap.size+1) 89 #[.slice none 0 0]:=by rw [hw1];exact Qau
 have hK0:Blk w1 (w.heap.size+2) 89 #[.slice none 0 0]:=by rw [hw1];exact Qau
 clear hw1
 go_loopw [4] (fun i W=>Below w.heap.size w W∧Blk W w.heap.size 29 #[.slice Q L cq]∧Blk W (w.heap.size+1) 89 #[.slice none 0 0]∧∃ (j:Nat) (A3:Option Addr) (c3:Nat) (xs:List Value),j≤L∧i=.int .i64 j∧Blk W (w.heap.size+2) 89 #[.slice A3 j c3]∧RwL W (w.heap.size+3) A3 j c3 xs (ls.take j)) (fun i _=>L-(intOf i).toNat)
 case atStart=>exact ⟨hb1,hJ,hR,0,none,0,[],Nat.zero_le _,rfl,hK0,by simpa using RwL.nil _ _⟩
 case round =>
  clear hb1 hJ hR hK0;obtain ⟨hbl,hJ,hR,j,A3,c3,xs,hj,rfl,hK0,hown⟩:=hrel;have j0:=hJ.cell 0;simp only [List.getElem?_toArray,List.getElem?_cons_zero] at j0
  by_cases hlt:j<L
  · obtain ⟨sb,so,Ar,m,cr,l,rfl,hl,hcl,hr,hq1,hq2⟩:=HT.out.at_ hlt
    have HN:=Zh (show ls.take (j+1)=ls.take j ++[l] by
     rw [List.take_succ_eq_append_getElem (Zs hl).1,(Zs hl).2])
    have hm:m≤1000000:=by have:=HC.out l (Zm hl);rw [hr.1] at this;exact this
    have dcl:=Zc hbl (Zn _) hcl;have HSB:=Zh (Qag hcl);have HRR:=Zh (hr.below hbl);have i3:(0:Int)≤(j:Int):=by omega
    have i4:(j:Int)<(L:Int):=by omega
    have hsz:w.heap.size+3≤wr.heap.size:=by have:=hK0.lt;omega
    clear hr hl hcl hq1 hq2
    have HSX:=Zh (show ∀ V,Below (w.heap.size+2) wr V→V.cell? ⟨w.heap.size,0,none⟩=some (.slice (some ⟨sb,so,none⟩) L cq)∧V.cell? ⟨sb,so+j,none⟩=some (.slice Ar m cr) from
     fun V hb=>⟨(hb.cell (by simp only;omega)).trans j0,(hb.cell (by have:=Qag dcl;have:=HSB.out;simp only at this ⊢;omega)).trans dcl⟩)
    go_wp2_with fail
    refine wp_region_held_drew (S:=fun V=>Below (w.heap.size+2) wr V) (by kernel_rfl) (Zr _ _).drew (fun _=>?_);refine tz 0 12 ?_;refine tz 3 15 ?_;refine tz 4 16 ?_;refine tz 5 17 ?_;refine tz 6 18 ?_;refine tz 7 19 ?_;refine wpAnyH_ready (rs:=[1,2]) (by kernel_rfl) (by simp) ?_;refine AllReadyH.cons (o:=_) rfl (fun K hK=>?_) (AllReadyH.cons (o:=_) rfl (fun K hK=>?_) AllReadyH.nil)
    · have k3a:=hK0.cell 0
      simp only [List.getElem?_toArray,List.getElem?_cons_zero] at k3a;go_simp;refine hK.out _ _ (Zr _ _).drew (fun _=>?_);clear hK K k3a;refine Zk 2 (fun K hK=>?_);go_simp;refine hK.out _ _ (((Zr _ _).alloc (by omega) _).drew) (fun _=>?_);clear hK K;obtain ⟨W3,hW3⟩:∃ W3,W3=(wr.alloc (.cells #[] 3)).drew:=⟨_,rfl⟩;rw [←hW3];have hbr3:Below wr.heap.size wr W3:=by rw [hW3];exact Qae
      have hown0:Own W3 wr.heap.size 3 1 (some ⟨wr.heap.size,0,none⟩) 0 0 []:=by rw [hW3];exact lit0 (Zn _)
      have hrd0:=(HRR.out.below hbr3).rdsI;have hz3:=hbr3.size;clear hW3;refine Zk 8 (fun K hK=>?_);with_reducible refine Qai (some 20) rfl rfl (.tmp 14) (.tmp 19) 93 rfl 3 _ 1 8 Qay underlying93 rfl (by omega) rfl rfl hown0 hrd0 (Qak _) (by omega) (by omega) (by omega) ?_
      intro A2 c2 w4 hrc hg4 _;have hbr4:Below wr.heap.size wr w4:=Bel.grownOwn hbr3 hg4 hown0 (by omega);simp only [Nat.zero_add,List.nil_append] at hrc;clear hg4 hown0 hrd0;refine hK.out _ _ (hbr4.mono (by omega)) (fun _=>?_);clear hK K;simp only [Act.put,List.setIfInBounds_toArray,List.set_cons_zero,List.set_cons_succ,Nat.zero_add];refine Zk 9 (fun K hK=>?_);go_simp;refine hK.out _ _ (Below.alloc (hbr4.mono (by omega)) (by have:=hbr4.size;omega) _) (fun _=>?_);clear hK K;obtain ⟨W,hW⟩:∃ W,W=w4.alloc (.cells #[.slice A2 m c2] 93):=⟨_,rfl⟩;rw [←hW];have hb4W:Below w4.heap.size w4 W:=by rw [hW];exact Qae
      have hrdW:Rds W 1 (some ⟨w4.heap.size,0,none⟩) 1 [.slice A2 m c2]:=by rw [hW];exact (Blk.new w4 93 #[.slice A2 m c2]).rds rfl
      clear hW;have hbrW:Below wr.heap.size wr W:=Zb hbr4 hb4W;have hcW:=hrc.rds.rdI.below hb4W;have hloW:∀ g,Qab A2=some g→wr.heap.size≤g∧g<W.heap.size:=fun g hg=>⟨(hrc.lt g hg).1,Nat.lt_of_lt_of_le (hrc.lt g hg).2 hb4W.size⟩
      have hcapW:=hrc.cap;have hcapM:=hrc.capMax;have hbrW:Below wr.heap.size wr W:=hbrW;have hyW:=hown.below hbrW;have hbW:Below (w.heap.size+2) wr W:=hbrW.mono (by omega);have hblW:Below w.heap.size w W:=Zb hbl hbrW;have hJW:=hJ.below hbrW hJ.lt;have hRW:=hR.below hbrW hR.lt;have hKW:=hK0.below hbrW hK0.lt
      have hclW:∀ g,Qab A2=some g→w.heap.size+3≤g∧g<W.heap.size∧Qab A3≠some g:=fun g hg=>by
       have h1:=hloW g hg;refine ⟨by omega,h1.2,fun e=>?_⟩;have h2:=(hown.1.lt g e).2;omega
      have hWsz:w.heap.size+3≤W.heap.size:=by have:=hbrW.size;omega
      have HYY:=Zh hyW;have hownY:=hyW.1;clear hyW;refine Zk 10 (fun K hK=>?_);with_reducible refine Qai (some 22) rfl rfl (.tmp 13) (.tmp 21) 27 rfl 93 _ 1 24 Qhj underlying27 rfl (by omega) rfl rfl hownY hrdW (Qcr _ _ _) (by omega) (by omega) hWsz ?_
      intro A' c' w' hown' hg hat;have hb5:Below (w.heap.size+2) wr w':=Bel.grownOwn hbW hg (hownY.mono (by omega)) (by omega);have hb6:Below w.heap.size w w':=Bel.grownOwn hblW hg (hownY.mono (by omega)) (by omega);have hJ':=hJW.grown hg (hownY.ne (by omega));have hR':=hRW.grown hg (hownY.ne (by omega));have hK':=hKW.grown hg (hownY.ne (by omega));have HYN:=Zh (HYY.out.push hown' hg hat hcW hclW hcapW hcapM);clear hownY hrdW hbW hblW hJW hRW hKW hg hclW hcW hown' hat HYY hbrW hcapW hcapM;refine hK.out _ _ hb5 (fun _=>?_);clear hK K;simp only [Act.put,List.setIfInBounds_toArray,List.set_cons_zero,List.set_cons_succ];refine tz 11 23 ?_;have k3':=hK'.cell 0;simp only [List.getElem?_toArray,List.getElem?_cons_zero] at k3';have kf':=hK'.frozen 0;refine Zk 12 (fun K hK=>?_);go_simp;refine hK.out _ _ (hb5.setCell (by simp only;omega) _) (fun _=>?_);clear hK K;refine Zd ?_;have HK2:=Zh (hK'.set_ 0 (.slice A' (j+1) c'));have HY2:=Zh (HYN.out.far (Qaa w' (w.heap.size+2) 0 (.slice A' (j+1) c')) (by omega));have HB2:=Zh (show Below w.heap.size w (w'.setCell ⟨w.heap.size+2,0,none⟩ (.slice A' (j+1) c')) from hb6.setCell (by simp only;omega) _)
      have HJ2:=Zh (hJ'.far_ (b:=w.heap.size+2) (o:=0) (by omega) (.slice A' (j+1) c'));have HR2:=Zh (hR'.far_ (b:=w.heap.size+2) (o:=0) (by omega) (.slice A' (j+1) c'));clear hK' k3' kf' hJ' hR'
      go_wp2_with fail
      go_roundw
      case rel=>exact ⟨HB2.out,HJ2.out,HR2.out,j+1,A',c',_,by omega,by go_num,HK2.out,by rw [HN.out];exact HY2.out⟩
      case measure=>simp [intOf];omega
    · go_simp
      refine hK.out _ _ (((Zr _ _).alloc (by omega) _).drew) (fun _=>?_);clear hK K;obtain ⟨W3,hW3⟩:∃ W3,W3=(wr.alloc (.cells #[] 3)).drew:=⟨_,rfl⟩;rw [←hW3];have hbr3:Below wr.heap.size wr W3:=by rw [hW3];exact Qae
      have hown0:Own W3 wr.heap.size 3 1 (some ⟨wr.heap.size,0,none⟩) 0 0 []:=by rw [hW3];exact lit0 (Zn _)
      have hrd0:=(HRR.out.below hbr3).rdsI;have hz3:=hbr3.size;clear hW3;refine wpAnyH_ready (rs:=[1,8]) (by kernel_rfl) (by simp) ?_;refine AllReadyH.cons (o:=_) rfl (fun K hK=>?_) (AllReadyH.cons (o:=_) rfl (fun K hK=>?_) AllReadyH.nil)
      · have k3a:W3.cell? ⟨w.heap.size+2,0,none⟩=some (.slice A3 j c3):=(hK0.below hbr3 hK0.lt).cell 0
        go_simp;refine hK.out _ _ (hbr3.mono (by omega)) (fun _=>?_);clear hK K k3a;refine Zk 8 (fun K hK=>?_);with_reducible refine Qai (some 20) rfl rfl (.tmp 14) (.tmp 19) 93 rfl 3 _ 1 8 Qay underlying93 rfl (by omega) rfl rfl hown0 hrd0 (Qak _) (by omega) (by omega) (by omega) ?_
        intro A2 c2 w4 hrc hg4 _;have hbr4:Below wr.heap.size wr w4:=Bel.grownOwn hbr3 hg4 hown0 (by omega);simp only [Nat.zero_add,List.nil_append] at hrc;clear hg4 hown0 hrd0;refine hK.out _ _ (hbr4.mono (by omega)) (fun _=>?_);clear hK K;simp only [Act.put,List.setIfInBounds_toArray,List.set_cons_zero,List.set_cons_succ,Nat.zero_add];refine Zk 9 (fun K hK=>?_);go_simp;refine hK.out _ _ (Below.alloc (hbr4.mono (by omega)) (by have:=hbr4.size;omega) _) (fun _=>?_);clear hK K;obtain ⟨W,hW⟩:∃ W,W=w4.alloc (.cells #[.slice A2 m c2] 93):=⟨_,rfl⟩;rw [←hW];have hb4W:Below w4.heap.size w4 W:=by rw [hW];exact Qae
        have hrdW:Rds W 1 (some ⟨w4.heap.size,0,none⟩) 1 [.slice A2 m c2]:=by rw [hW];exact (Blk.new w4 93 #[.slice A2 m c2]).rds rfl
        clear hW;have hbrW:Below wr.heap.size wr W:=Zb hbr4 hb4W;have hcW:=hrc.rds.rdI.below hb4W;have hloW:∀ g,Qab A2=some g→wr.heap.size≤g∧g<W.heap.size:=fun g hg=>⟨(hrc.lt g hg).1,Nat.lt_of_lt_of_le (hrc.lt g hg).2 hb4W.size⟩
        have hcapW:=hrc.cap;have hcapM:=hrc.capMax;have hbrW:Below wr.heap.size wr W:=hbrW;have hyW:=hown.below hbrW;have hbW:Below (w.heap.size+2) wr W:=hbrW.mono (by omega);have hblW:Below w.heap.size w W:=Zb hbl hbrW;have hJW:=hJ.below hbrW hJ.lt;have hRW:=hR.below hbrW hR.lt;have hKW:=hK0.below hbrW hK0.lt
        have hclW:∀ g,Qab A2=some g→w.heap.size+3≤g∧g<W.heap.size∧Qab A3≠some g:=fun g hg=>by
         have h1:=hloW g hg;refine ⟨by omega,h1.2,fun e=>?_⟩;have h2:=(hown.1.lt g e).2;omega
        have hWsz:w.heap.size+3≤W.heap.size:=by have:=hbrW.size;omega
        have HYY:=Zh hyW;have hownY:=hyW.1;clear hyW;refine Zk 10 (fun K hK=>?_);with_reducible refine Qai (some 22) rfl rfl (.tmp 13) (.tmp 21) 27 rfl 93 _ 1 24 Qhj underlying27 rfl (by omega) rfl rfl hownY hrdW (Qcr _ _ _) (by omega) (by omega) hWsz ?_
        intro A' c' w' hown' hg hat;have hb5:Below (w.heap.size+2) wr w':=Bel.grownOwn hbW hg (hownY.mono (by omega)) (by omega);have hb6:Below w.heap.size w w':=Bel.grownOwn hblW hg (hownY.mono (by omega)) (by omega);have hJ':=hJW.grown hg (hownY.ne (by omega));have hR':=hRW.grown hg (hownY.ne (by omega));have hK':=hKW.grown hg (hownY.ne (by omega));have HYN:=Zh (HYY.out.push hown' hg hat hcW hclW hcapW hcapM);clear hownY hrdW hbW hblW hJW hRW hKW hg hclW hcW hown' hat HYY hbrW hcapW hcapM;refine hK.out _ _ hb5 (fun _=>?_);clear hK K;simp only [Act.put,List.setIfInBounds_toArray,List.set_cons_zero,List.set_cons_succ];refine tz 11 23 ?_;have k3':=hK'.cell 0;simp only [List.getElem?_toArray,List.getElem?_cons_zero] at k3';have kf':=hK'.frozen 0;refine Zk 12 (fun K hK=>?_);go_simp;refine hK.out _ _ (hb5.setCell (by simp only;omega) _) (fun _=>?_);clear hK K;refine Zd ?_;have HK2:=Zh (hK'.set_ 0 (.slice A' (j+1) c'));have HY2:=Zh (HYN.out.far (Qaa w' (w.heap.size+2) 0 (.slice A' (j+1) c')) (by omega));have HB2:=Zh (show Below w.heap.size w (w'.setCell ⟨w.heap.size+2,0,none⟩ (.slice A' (j+1) c')) from hb6.setCell (by simp only;omega) _)
        have HJ2:=Zh (hJ'.far_ (b:=w.heap.size+2) (o:=0) (by omega) (.slice A' (j+1) c'));have HR2:=Zh (hR'.far_ (b:=w.heap.size+2) (o:=0) (by omega) (.slice A' (j+1) c'));clear hK' k3' kf' hJ' hR'
        go_wp2_with fail
        go_roundw
        case rel=>exact ⟨HB2.out,HJ2.out,HR2.out,j+1,A',c',_,by omega,by go_num,HK2.out,by rw [HN.out];exact HY2.out⟩
        case measure=>simp [intOf];omega
      · with_reducible refine Qai (some 20) rfl rfl (.tmp 14) (.tmp 19) 93 rfl 3 _ 1 8 Qay underlying93 rfl (by omega) rfl rfl hown0 hrd0 (Qak _) (by omega) (by omega) (by omega) ?_
        intro A2 c2 w4 hrc hg4 _;have hbr4:Below wr.heap.size wr w4:=Bel.grownOwn hbr3 hg4 hown0 (by omega);simp only [Nat.zero_add,List.nil_append] at hrc;clear hg4 hown0 hrd0;refine hK.out _ _ (hbr4.mono (by omega)) (fun _=>?_);clear hK K;simp only [Act.put,List.setIfInBounds_toArray,List.set_cons_zero,List.set_cons_succ,Nat.zero_add];refine wpAnyH_ready (rs:=[1,9]) (by kernel_rfl) (by simp) ?_;refine AllReadyH.cons (o:=_) rfl (fun K hK=>?_) (AllReadyH.cons (o:=_) rfl (fun K hK=>?_) AllReadyH.nil)
        · have k3a:w4.cell? ⟨w.heap.size+2,0,none⟩=some (.slice A3 j c3):=(hK0.below hbr4 hK0.lt).cell 0
          go_simp;refine hK.out _ _ (hbr4.mono (by omega)) (fun _=>?_);clear hK K k3a;refine Zk 9 (fun K hK=>?_);go_simp;refine hK.out _ _ (Below.alloc (hbr4.mono (by omega)) (by have:=hbr4.size;omega) _) (fun _=>?_);clear hK K;obtain ⟨W,hW⟩:∃ W,W=w4.alloc (.cells #[.slice A2 m c2] 93):=⟨_,rfl⟩;rw [←hW];have hb4W:Below w4.heap.size w4 W:=by rw [hW];exact Qae
          have hrdW:Rds W 1 (some ⟨w4.heap.size,0,none⟩) 1 [.slice A2 m c2]:=by rw [hW];exact (Blk.new w4 93 #[.slice A2 m c2]).rds rfl
          clear hW;have hbrW:Below wr.heap.size wr W:=Zb hbr4 hb4W;have hcW:=hrc.rds.rdI.below hb4W;have hloW:∀ g,Qab A2=some g→wr.heap.size≤g∧g<W.heap.size:=fun g hg=>⟨(hrc.lt g hg).1,Nat.lt_of_lt_of_le (hrc.lt g hg).2 hb4W.size⟩
          have hcapW:=hrc.cap;have hcapM:=hrc.capMax;have hbrW:Below wr.heap.size wr W:=hbrW;have hyW:=hown.below hbrW;have hbW:Below (w.heap.size+2) wr W:=hbrW.mono (by omega);have hblW:Below w.heap.size w W:=Zb hbl hbrW;have hJW:=hJ.below hbrW hJ.lt;have hRW:=hR.below hbrW hR.lt;have hKW:=hK0.below hbrW hK0.lt
          have hclW:∀ g,Qab A2=some g→w.heap.size+3≤g∧g<W.heap.size∧Qab A3≠some g:=fun g hg=>by
           have h1:=hloW g hg;refine ⟨by omega,h1.2,fun e=>?_⟩;have h2:=(hown.1.lt g e).2;omega
          have hWsz:w.heap.size+3≤W.heap.size:=by have:=hbrW.size;omega
          have HYY:=Zh hyW;have hownY:=hyW.1;clear hyW;refine Zk 10 (fun K hK=>?_);with_reducible refine Qai (some 22) rfl rfl (.tmp 13) (.tmp 21) 27 rfl 93 _ 1 24 Qhj underlying27 rfl (by omega) rfl rfl hownY hrdW (Qcr _ _ _) (by omega) (by omega) hWsz ?_
          intro A' c' w' hown' hg hat;have hb5:Below (w.heap.size+2) wr w':=Bel.grownOwn hbW hg (hownY.mono (by omega)) (by omega);have hb6:Below w.heap.size w w':=Bel.grownOwn hblW hg (hownY.mono (by omega)) (by omega);have hJ':=hJW.grown hg (hownY.ne (by omega));have hR':=hRW.grown hg (hownY.ne (by omega));have hK':=hKW.grown hg (hownY.ne (by omega));have HYN:=Zh (HYY.out.push hown' hg hat hcW hclW hcapW hcapM);clear hownY hrdW hbW hblW hJW hRW hKW hg hclW hcW hown' hat HYY hbrW hcapW hcapM;refine hK.out _ _ hb5 (fun _=>?_);clear hK K;simp only [Act.put,List.setIfInBounds_toArray,List.set_cons_zero,List.set_cons_succ];refine tz 11 23 ?_;have k3':=hK'.cell 0;simp only [List.getElem?_toArray,List.getElem?_cons_zero] at k3';have kf':=hK'.frozen 0;refine Zk 12 (fun K hK=>?_);go_simp;refine hK.out _ _ (hb5.setCell (by simp only;omega) _) (fun _=>?_);clear hK K;refine Zd ?_;have HK2:=Zh (hK'.set_ 0 (.slice A' (j+1) c'));have HY2:=Zh (HYN.out.far (Qaa w' (w.heap.size+2) 0 (.slice A' (j+1) c')) (by omega));have HB2:=Zh (show Below w.heap.size w (w'.setCell ⟨w.heap.size+2,0,none⟩ (.slice A' (j+1) c')) from hb6.setCell (by simp only;omega) _)
          have HJ2:=Zh (hJ'.far_ (b:=w.heap.size+2) (o:=0) (by omega) (.slice A' (j+1) c'));have HR2:=Zh (hR'.far_ (b:=w.heap.size+2) (o:=0) (by omega) (.slice A' (j+1) c'));clear hK' k3' kf' hJ' hR'
          go_wp2_with fail
          go_roundw
          case rel=>exact ⟨HB2.out,HJ2.out,HR2.out,j+1,A',c',_,by omega,by go_num,HK2.out,by rw [HN.out];exact HY2.out⟩
          case measure=>simp [intOf];omega
        · go_simp
          refine hK.out _ _ (Below.alloc (hbr4.mono (by omega)) (by have:=hbr4.size;omega) _) (fun _=>?_);clear hK K;have k3a:∀ o,(w4.alloc o).cell? ⟨w.heap.size+2,0,none⟩=some (.slice A3 j c3):=fun o=>((hK0.below hbr4 hK0.lt).alloc o).cell 0
          refine Zk 1 (fun K hK=>?_);go_simp;refine hK.out _ _ (Below.alloc (hbr4.mono (by omega)) (by have:=hbr4.size;omega) _) (fun _=>?_);clear hK K;clear k3a;obtain ⟨W,hW⟩:∃ W,W=w4.alloc (.cells #[.slice A2 m c2] 93):=⟨_,rfl⟩;rw [←hW];have hb4W:Below w4.heap.size w4 W:=by rw [hW];exact Qae
          have hrdW:Rds W 1 (some ⟨w4.heap.size,0,none⟩) 1 [.slice A2 m c2]:=by rw [hW];exact (Blk.new w4 93 #[.slice A2 m c2]).rds rfl
          clear hW;have hbrW:Below wr.heap.size wr W:=Zb hbr4 hb4W;have hcW:=hrc.rds.rdI.below hb4W;have hloW:∀ g,Qab A2=some g→wr.heap.size≤g∧g<W.heap.size:=fun g hg=>⟨(hrc.lt g hg).1,Nat.lt_of_lt_of_le (hrc.lt g hg).2 hb4W.size⟩
          have hcapW:=hrc.cap;have hcapM:=hrc.capMax;have hbrW:Below wr.heap.size wr W:=hbrW;have hyW:=hown.below hbrW;have hbW:Below (w.heap.size+2) wr W:=hbrW.mono (by omega);have hblW:Below w.heap.size w W:=Zb hbl hbrW;have hJW:=hJ.below hbrW hJ.lt;have hRW:=hR.below hbrW hR.lt;have hKW:=hK0.below hbrW hK0.lt
          have hclW:∀ g,Qab A2=some g→w.heap.size+3≤g∧g<W.heap.size∧Qab A3≠some g:=fun g hg=>by
           have h1:=hloW g hg;refine ⟨by omega,h1.2,fun e=>?_⟩;have h2:=(hown.1.lt g e).2;omega
          have hWsz:w.heap.size+3≤W.heap.size:=by have:=hbrW.size;omega
          have HYY:=Zh hyW;have hownY:=hyW.1;clear hyW;refine Zk 10 (fun K hK=>?_);with_reducible refine Qai (some 22) rfl rfl (.tmp 13) (.tmp 21) 27 rfl 93 _ 1 24 Qhj underlying27 rfl (by omega) rfl rfl hownY hrdW (Qcr _ _ _) (by omega) (by omega) hWsz ?_
          intro A' c' w' hown' hg hat;have hb5:Below (w.heap.size+2) wr w':=Bel.grownOwn hbW hg (hownY.mono (by omega)) (by omega);have hb6:Below w.heap.size w w':=Bel.grownOwn hblW hg (hownY.mono (by omega)) (by omega);have hJ':=hJW.grown hg (hownY.ne (by omega));have hR':=hRW.grown hg (hownY.ne (by omega));have hK':=hKW.grown hg (hownY.ne (by omega));have HYN:=Zh (HYY.out.push hown' hg hat hcW hclW hcapW hcapM);clear hownY hrdW hbW hblW hJW hRW hKW hg hclW hcW hown' hat HYY hbrW hcapW hcapM;refine hK.out _ _ hb5 (fun _=>?_);clear hK K;simp only [Act.put,List.setIfInBounds_toArray,List.set_cons_zero,List.set_cons_succ];refine tz 11 23 ?_;have k3':=hK'.cell 0;simp only [List.getElem?_toArray,List.getElem?_cons_zero] at k3';have kf':=hK'.frozen 0;refine Zk 12 (fun K hK=>?_);go_simp;refine hK.out _ _ (hb5.setCell (by simp only;omega) _) (fun _=>?_);clear hK K;refine Zd ?_;have HK2:=Zh (hK'.set_ 0 (.slice A' (j+1) c'));have HY2:=Zh (HYN.out.far (Qaa w' (w.heap.size+2) 0 (.slice A' (j+1) c')) (by omega));have HB2:=Zh (show Below w.heap.size w (w'.setCell ⟨w.heap.size+2,0,none⟩ (.slice A' (j+1) c')) from hb6.setCell (by simp only;omega) _)
          have HJ2:=Zh (hJ'.far_ (b:=w.heap.size+2) (o:=0) (by omega) (.slice A' (j+1) c'));have HR2:=Zh (hR'.far_ (b:=w.heap.size+2) (o:=0) (by omega) (.slice A' (j+1) c'));clear hK' k3' kf' hJ' hR'
          go_wp2_with fail
          go_roundw
          case rel=>exact ⟨HB2.out,HJ2.out,HR2.out,j+1,A',c',_,by omega,by go_num,HK2.out,by rw [HN.out];exact HY2.out⟩
          case measure=>simp [intOf];omega
  · obtain rfl:L=j:=by omega
    rw [List.take_of_length_le (by rw [HT.out.1];exact Zn _)] at hown;have q0:=hK0.cell 0;have r0:=hR.cell 0;simp only [List.getElem?_toArray,List.getElem?_cons_zero] at q0 r0;have f0:=hR.frozen 0;have hown2:=hown.far (Qaa wr (w.heap.size+1) 0 (.slice A3 L c3)) (by omega);have HM:=Zh (hown2.rdM (G:=fun b=>w.heap.size≤b∧b<(wr.setCell ⟨w.heap.size+1,0,none⟩ (.slice A3 L c3)).heap.size) (fun b h1 h2=>⟨by omega,h2⟩));have HCP:=Zh (And.intro hown.1.cap hown.1.capMax);clear hown hown2 hR
    go_wp2_with fail
    refine bodyPost_ret (v:=.agg #[.slice A3 L c3]) (by simp [results,results36,go_sem,r0]) rfl ?_;exact ⟨A3,c3,rfl,HM.out,HCP.out.1,HCP.out.2,Qae⟩
set_option maxHeartbeats 1000000 in
theorem Qni (A B C Q:Option Addr)(n m k c d e L cq:Nat)(N:Qaj) (ls:List (List Int)) (w:World) (h:Qbm w A B C n m k N) (hN:Qas N) (hq:RdT w Q L ls) (hP:Qcl N.vs.length ls) :
 Calls prog 10 #[.agg #[.slice A n c,.slice B m d,.slice C k e],.agg #[.slice Q L cq]] w fun r w'=>∃ o,r=.returned (.pointer (some ⟨o,0,none⟩))∧Qex (msk w' (fun b=>w.heap.size≤b∧b<w'.heap.size)) o N.ar ls∧Below w.heap.size w w':=by
 have HH:=Zh h;have HN:=Zh hN;have HT:=Zh hq;have HP:=Zh hP;have hn4:=hN.lv;have l6:L≤6:=by rw [←hq.1];exact hP.l6
 have HVL:=Zh hn4;clear h hN hq hP hn4
 go_enter func10,ntmps10
 go_wp2_with fail
 (refine Qac ?_;intro w1 hw1)
 have hb1:Below w.heap.size w w1:=by rw [hw1];exact Qae
 have hQ:Blk w1 (w.heap.size+1) 29 #[.slice Q L cq]:=by rw [hw1];exact Qau
 clear hw1;with_reducible refine (Qlm A B C n m k c d e N w1 (HH.out.below hb1) HN.out).mono ?_
 rintro r w2 ⟨g,rfl,hG,hb2⟩;have hbw2:=Zb hb1 hb2;have HG:=Zh hG.rd;have y0:=(hQ.below hb2 hQ.lt).cell 0;simp only [List.getElem?_toArray,List.getElem?_cons_zero] at y0;clear hG hb2 hQ
 go_wp2_with fail
 with_reducible refine (Qtg Q L cq ls w2 (HT.out.below hbw2) (by omega) (fun l hl=>by have:=(HP.out.lvl l hl).len;have:=HVL.out;omega)).mono ?_
 rintro r w3 ⟨Q3,cq3,rfl,hq3,_,_,hb3⟩;have hbw3:=Zb hbw2 hb3;have HQ3:=Zh (hq3.le (Qbt _ _));have HG3:=Zh (HG.out.below hb3);clear hq3 hb3 y0
 go_wp2_with fail
 with_reducible refine (Qsw g N Q3 L cq3 _ ls w3 HG3.out HN.out HQ3.out HP.out rfl).mono ?_
 rintro r w4 ⟨o,rfl,hO,hb4⟩;have hz3:=hbw3.size;have HO:=Zh (hO.le (Qbn (G':=fun b=>w.heap.size≤b∧b<w4.heap.size) (fun b hb=>⟨by omega,hb.2⟩)));have hbw4:=Zb hbw3 hb4;clear hO hb4
 go_wp2_with fail
 go_ret
 exact ⟨o,rfl,HO.out,hbw4⟩
theorem two_any (w:World):Calls prog 31 #[] w fun e w'=>∃ A,e=.returned (.agg #[.slice A 2 2])∧RdT w' A 2 Qid∧Below w.heap.size w w':=by
 go_enter func31,ntmps31
 go_wp2_with fail
 (refine Qcv ?_;intro W hW)
 have c0:W.cell? ⟨w.heap.size,0,none⟩=some (.slice (some ⟨w.heap.size+1+1+1,0,none⟩) 2 2):=by
  rw [hW,Blk.cell (t:=29) (cs:=#[.slice (some ⟨w.heap.size+1+1+1,0,none⟩) 2 2]) Qau];rfl
 refine bodyPost_ret (v:=.agg #[.slice (some ⟨w.heap.size+1+1+1,0,none⟩) 2 2]) (by simp [results,results31,go_sem,c0]) rfl ?_;rw [hW];exact ⟨_,rfl,two_fact (g1:=w.heap.size+1) (g2:=w.heap.size+1+1) (t:=3) (s:=93) Qau Qau Qau,Qae⟩
set_option maxHeartbeats 2000000 in
theorem ring_any (w:World):Calls prog 30 #[] w fun e w'=>∃ A B C,e=.returned (.agg #[.slice A 3 3,.slice B 4 4,.slice C 3 3])∧Qbm w' A B C 3 4 3 Qbh∧Below w.heap.size w w':=by
 go_enter func30,ntmps30
 go_wp2_with fail
 (refine Qcv ?_;intro W hW)
 have hB:Blk W w.heap.size 26 #[.slice (some ⟨w.heap.size+1+1+1+1+1+1+1,0,none⟩) 3 3,.slice (some ⟨w.heap.size+1+1+1+1+1+1+1+1,0,none⟩) 4 4,.slice (some ⟨w.heap.size+1+1+1+1+1+1+1+1+1,0,none⟩) 3 3]:=by
  rw [hW];refine Blk.alloc ?_ _;refine Blk.alloc ?_ _;refine Blk.alloc ?_ _;refine Blk.alloc ?_ _;refine Blk.alloc ?_ _;refine Blk.alloc ?_ _;refine Blk.alloc ?_ _;refine Blk.alloc ?_ _;refine Blk.alloc ?_ _;refine Blk.new' _ _ _ ?_
  first | with_unfolding_all rfl | (simp;done)
 have c0:=hB.cell 0;have c1:=hB.cell 1;have c2:=hB.cell 2;simp only [List.getElem?_toArray,List.getElem?_cons_zero,List.getElem?_cons_succ] at c0 c1 c2;refine bodyPost_ret (v:=.agg #[.slice (some ⟨w.heap.size+1+1+1+1+1+1+1,0,none⟩) 3 3,.slice (some ⟨w.heap.size+1+1+1+1+1+1+1+1,0,none⟩) 4 4,.slice (some ⟨w.heap.size+1+1+1+1+1+1+1+1+1,0,none⟩) 3 3]) (by simp [results,results30,go_sem,c0,c1,c2]) rfl ?_
 have b1:Blk W (w.heap.size+1) 2 #[.int .i64 2]:=by
  rw [hW];refine Blk.alloc ?_ _;refine Blk.alloc ?_ _;refine Blk.alloc ?_ _;refine Blk.alloc ?_ _;refine Blk.alloc ?_ _;refine Blk.alloc ?_ _;refine Blk.alloc ?_ _;refine Blk.alloc ?_ _;refine Blk.new' _ _ _ ?_
  first | with_unfolding_all rfl | (simp;done)
 have b2:Blk W (w.heap.size+1+1+1) 2 #[.int .i64 0,.int .i64 1152921504606846976]:=by
  rw [hW];refine Blk.alloc ?_ _;refine Blk.alloc ?_ _;refine Blk.alloc ?_ _;refine Blk.alloc ?_ _;refine Blk.alloc ?_ _;refine Blk.alloc ?_ _;refine Blk.new' _ _ _ ?_
  first | with_unfolding_all rfl | (simp;done)
 have b3:Blk W (w.heap.size+1+1+1+1+1) 2 #[.int .i64 1,.int .i64 5]:=by
  rw [hW];refine Blk.alloc ?_ _;refine Blk.alloc ?_ _;refine Blk.alloc ?_ _;refine Blk.alloc ?_ _;refine Blk.new' _ _ _ ?_
  first | with_unfolding_all rfl | (simp;done)
 have b4:Blk W (w.heap.size+1+1+1+1+1+1+1) 138 #[.int .i64 0,.int .i64 0,.int .i64 1,.int .i64 10,.int .i64 0,.int .i64 2,.int .i64 5,.int .i64 8,.int .i64 0]:=by
  rw [hW];refine Blk.alloc ?_ _;refine Blk.alloc ?_ _;refine Blk.new' _ _ _ ?_
  first | with_unfolding_all rfl | (simp;done)
 have b5:Blk W (w.heap.size+1+1+1+1+1+1+1+1) 73 #[.int .i64 0,.int .i64 1,.int .i64 10,.int .i64 1,.int .i64 2,.int .i64 20,.int .i64 2,.int .i64 0,.int .i64 30,.int .i64 1,.int .i64 0,.int .i64 40]:=by
  rw [hW];refine Blk.alloc ?_ _;refine Blk.new' _ _ _ ?_
  first | with_unfolding_all rfl | (simp;done)
 have b6:Blk W (w.heap.size+1+1+1+1+1+1+1+1+1) 75 #[.int .i64 1,.int .i64 1,.slice (some ⟨w.heap.size+1,0,none⟩) 1 1,.int .i64 2,.int .i64 1,.slice (some ⟨w.heap.size+1+1+1,0,none⟩) 2 2,.int .i64 1,.int .i64 2,.slice (some ⟨w.heap.size+1+1+1+1+1,0,none⟩) 2 2]:=by
  rw [hW];refine Blk.new' _ _ _ ?_
  first | with_unfolding_all rfl | (simp;done)
 have hbl:Below w.heap.size w W:=by rw [hW];exact Qae
 exact ⟨_,_,_,rfl,Qvg b1 b2 b3 b4 b5 b6,hbl⟩
set_option maxHeartbeats 1000000 in
theorem Qeq (A B:Option Addr)(n m c d:Nat)(l l2:List Int)(w:World)(h:RdI w A n l)(h2:RdI w B m l2)(hn:n≤1000000000)(hm:m≤1000000000) :
 Calls prog 22 #[.slice A n c,.slice B m d] w fun e w'=>e=.returned (.bool (decide (l=l2)))∧∃ k,w'=w.drewN k:=by
 have HR:=Zh h;have HR2:=Zh h2;have HL:=Zh h.1;have HL2:=Zh h2.1;clear h h2
 by_cases hnm:n=m
 rotate_left
 · have e1:((n:Int) != (m:Int))=true:=by simp;omega
   have e2:((n:Int) == (m:Int))=false:=by simp;omega
   have HD:=Zh (show decide (l=l2)=false from decide_eq_false (fun e=>hnm (by rw [←HL.out,←HL2.out,e])))
   go_enter func22,ntmps22
   go_wp2_with fail
   go_ret
   exact ⟨Qbb HD.out.symm,0,rfl⟩
 subst hnm
 go_enter func22,ntmps22
 go_wp2_with fail
 go_loopw [5] (fun q W=>(∃ k,W=w.drewN k)∧∃ i:Nat,i≤n∧q=.int .i64 i∧∀ j,j<i→l[j]?=l2[j]?) (fun q _=>n-(intOf q).toNat)
 case atStart=>exact ⟨⟨0,rfl⟩,0,Nat.zero_le _,rfl,fun _ h=>absurd h (Nat.not_lt_zero _)⟩
 case round =>
  obtain ⟨hd,i,hi,rfl,hall⟩:=hrel;have HD:=Zh hd;have HA:=Zh hall;clear hall
  by_cases hlt:i<n
  · obtain ⟨b,o,x,rfl,hx,hc⟩:=HR.out.at_ hlt
    obtain ⟨b',o',y,rfl,hy,hc'⟩:=HR2.out.at_ hlt;have hc1:wr.cell? ⟨b,o+i,none⟩=some (.int .i64 x):=by obtain ⟨k,rfl⟩:=hd;exact hc
    have hc2:wr.cell? ⟨b',o'+i,none⟩=some (.int .i64 y):=by obtain ⟨k,rfl⟩:=hd;exact hc'
    have HX:=Zh hx;have HY:=Zh hy;have i1:(0:Int)≤(i:Int):=by omega
    have i2:(i:Int)<(n:Int):=by omega
    clear hx hy hc hc' hd
    by_cases e:x=y
    · subst e
      go_wp2_with fail
      go_quiet (fail)
      go_wp2_with fail
      go_roundw
      case rel =>
       obtain ⟨k,e⟩:=HD.out;refine ⟨⟨k+nq,by rw [e,World.drewN_drewN]⟩,i+1,by omega,by go_num,fun j hj=>?_⟩
       by_cases ej:j=i
       · subst ej
         rw [HX.out,HY.out]
       · exact HA.out j (by omega)
      case measure=>simp [intOf];omega
    · have e1:(x != y)=true:=by simpa using e
      have e2:(x == y)=false:=by simpa using e
      have HN:=Zh (show decide (l=l2)=false from decide_eq_false (fun ee=>by
       have:=HX.out;rw [ee,HY.out] at this;exact e (Option.some.inj this).symm))
      have HE:=Zh e;clear e
      go_wp2_with fail
      go_quiet (fail)
      go_wp2_with fail
      go_ret
      obtain ⟨k,e⟩:=HD.out;exact ⟨Qbb HN.out.symm,k+nq,by rw [e,World.drewN_drewN]⟩
  · obtain rfl:n=i:=by omega
    have HE:=Zh (show decide (l=l2)=true from decide_eq_true (List.ext_getElem? (fun j=>by
     rcases Nat.lt_or_ge j n with h|h
     · exact HA.out j h
     · rw [List.getElem?_eq_none (by rw [HL.out];exact h),List.getElem?_eq_none (by rw [HL2.out];exact h)])))
    clear hd
    go_wp2_with fail
    go_ret
    exact ⟨Qbb HE.out.symm,HD.out⟩
end Go.Proofs.YthoagdpakddbdaaGreatDoor
