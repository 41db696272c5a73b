/- Parts of the proof: Po, Md, AsG, AsZ. -/
import Derived.Test.YteaoiabikjnkeaaGreatDoorC1
import Derived.Test.YteaoiabikjnkeaaGreatDoorC10
import Derived.Test.YteaoiabikjnkeaaGreatDoorC11
import Derived.Test.YteaoiabikjnkeaaGreatDoorC16
import Derived.Test.YteaoiabikjnkeaaGreatDoorC23
import Derived.Test.YteaoiabikjnkeaaGreatDoorC24
import Derived.Test.YteaoiabikjnkeaaGreatDoorC25
namespace Go.Proofs.YteaoiabikjnkeaaGreatDoor
open Go.RowKit Go.Proofs.Tryz
attribute [local go_sem ↓] Go.wp_at_zero Go.wp_at_succ
set_option maxHeartbeats 4000000 in
set_option maxRecDepth 20000 in
theorem Qst (Q:Option Addr)(L cq:Nat) (ls:List (List Int)) (w:World) (h:RdT w Q L ls) (hL:L≤1000000) (hc:∀ l∈ls,l.length≤1000000) :
 Calls prog 117 #[.agg #[.slice Q L cq]] w fun r w'=>∃ Q' cq',r=.returned (.agg #[.slice Q' L cq'])∧RdT (msk w' (fun b=>w.heap.size≤b∧b<w'.heap.size)) Q' L ls∧L≤cq'∧cq'≤9223372036854775807∧Below w.heap.size w w':=by
 have HT:=Zh h;have HC:=Zh hc;clear h hc
 go_enter func117,ntmps117
 go_wp2_with fail
 (refine Qaj ?_;intro w1 hw1)
 have hb1:Below w.heap.size w w1:=by rw [hw1];exact Qah
 have hJ:Blk w1 w.heap.size 29 #[.slice Q L cq]:=by rw [hw1];exact Qbf
 have hR:Blk w1 (w.heap.size+1) 87 #[.slice none 0 0]:=by rw [hw1];exact Qbf
 have hK0:Blk w1 (w.heap.size+2) 87 #[.slice none 0 0]:=by rw [hw1];exact Qbf
 clear hw1
 go_loopw [4] (fun i W=>Below w.heap.size w W∧Blk W w.heap.size 29 #[.slice Q L cq]∧Blk W (w.heap.size+1) 87 #[.slice none 0 0]∧∃ (j:Nat) (A3:Option Addr) (c3:Nat) (xs:List Value),j≤L∧i=.int .i64 j∧Blk W (w.heap.size+2) 87 #[.slice A3 j c3]∧RwL W (w.heap.size+3) A3 j c3 xs (ls.take j)) (fun i _=>L-(intOf i).toNat)
 case atStart=>exact ⟨hb1,hJ,hR,0,none,0,[],Nat.zero_le _,rfl,hK0,by simpa using RwL.nil _ _⟩
 case round =>
  clear hb1 hJ hR hK0;obtain ⟨hbl,hJ,hR,j,A3,c3,xs,hj,rfl,hK0,hown⟩:=hrel;have j0:=hJ.cell 0;simp only [List.getElem?_toArray,List.getElem?_cons_zero] at j0
  by_cases hlt:j<L
  · obtain ⟨sb,so,Ar,m,cr,l,rfl,hl,hcl,hr,hq1,hq2⟩:=HT.out.at_ hlt
    have HN:=Zh (show ls.take (j+1)=ls.take j ++[l] by
     rw [List.take_succ_eq_append_getElem (Zs hl).1,(Zs hl).2])
    have hm:m≤1000000:=by have:=HC.out l (Zm hl);rw [hr.1] at this;exact this
    have dcl:=Zc hbl (Zn _) hcl;have HSB:=Zh (Qal hcl);have HRR:=Zh (hr.below hbl);have i3:(0:Int)≤(j:Int):=by omega
    have i4:(j:Int)<(L:Int):=by omega
    have hsz:w.heap.size+3≤wr.heap.size:=by have:=hK0.lt;omega
    clear hr hl hcl hq1 hq2
    have HSX:=Zh (show ∀ V,Below (w.heap.size+2) wr V→V.cell? ⟨w.heap.size,0,none⟩=some (.slice (some ⟨sb,so,none⟩) L cq)∧V.cell? ⟨sb,so+j,none⟩=some (.slice Ar m cr) from
     fun V hb=>⟨(hb.cell (by simp only;omega)).trans j0,(hb.cell (by have:=Qal dcl;have:=HSB.out;simp only at this ⊢;omega)).trans dcl⟩)
    go_wp2_with fail
    refine wp_region_held_drew (S:=fun V=>Below (w.heap.size+2) wr V) (by kernel_rfl) (Zr _ _).drew (fun _=>?_);refine tz 0 12 ?_;refine tz 3 15 ?_;refine tz 4 16 ?_;refine tz 5 17 ?_;refine tz 6 18 ?_;refine tz 7 19 ?_;refine wpAnyH_ready (rs:=[1,2]) (by kernel_rfl) (by simp) ?_;refine AllReadyH.cons (o:=_) rfl (fun K hK=>?_) (AllReadyH.cons (o:=_) rfl (fun K hK=>?_) AllReadyH.nil)
    · have k3a:=hK0.cell 0
      simp only [List.getElem?_toArray,List.getElem?_cons_zero] at k3a;go_simp;refine hK.out _ _ (Zr _ _).drew (fun _=>?_);clear hK K k3a;refine Zk 2 (fun K hK=>?_);go_simp;refine hK.out _ _ (((Zr _ _).alloc (by omega) _).drew) (fun _=>?_);clear hK K;obtain ⟨W3,hW3⟩:∃ W3,W3=(wr.alloc (.cells #[] 3)).drew:=⟨_,rfl⟩;rw [←hW3];have hbr3:Below wr.heap.size wr W3:=by rw [hW3];exact Qah
      have hown0:Own W3 wr.heap.size 3 1 (some ⟨wr.heap.size,0,none⟩) 0 0 []:=by rw [hW3];exact lit0 (Zn _)
      have hrd0:=(HRR.out.below hbr3).rdsI;have hz3:=hbr3.size;clear hW3;refine Zk 8 (fun K hK=>?_);with_reducible refine Qam (some 20) rfl rfl (.tmp 14) (.tmp 19) 67 rfl 3 _ 1 8 Qbb underlying67 rfl (by omega) rfl rfl hown0 hrd0 (Qak _) (by omega) (by omega) (by omega) ?_
      intro A2 c2 w4 hrc hg4 _;have hbr4:Below wr.heap.size wr w4:=Bel.grownOwn hbr3 hg4 hown0 (by omega);simp only [Nat.zero_add,List.nil_append] at hrc;clear hg4 hown0 hrd0;refine hK.out _ _ (hbr4.mono (by omega)) (fun _=>?_);clear hK K;simp only [Act.put,List.setIfInBounds_toArray,List.set_cons_zero,List.set_cons_succ,Nat.zero_add];refine Zk 9 (fun K hK=>?_);go_simp;refine hK.out _ _ (Below.alloc (hbr4.mono (by omega)) (by have:=hbr4.size;omega) _) (fun _=>?_);clear hK K;obtain ⟨W,hW⟩:∃ W,W=w4.alloc (.cells #[.slice A2 m c2] 67):=⟨_,rfl⟩;rw [←hW];have hb4W:Below w4.heap.size w4 W:=by rw [hW];exact Qah
      have hrdW:Rds W 1 (some ⟨w4.heap.size,0,none⟩) 1 [.slice A2 m c2]:=by rw [hW];exact (Blk.new w4 67 #[.slice A2 m c2]).rds rfl
      clear hW;have hbrW:Below wr.heap.size wr W:=Zb hbr4 hb4W;have hcW:=hrc.rds.rdI.below hb4W;have hloW:∀ g,Qac A2=some g→wr.heap.size≤g∧g<W.heap.size:=fun g hg=>⟨(hrc.lt g hg).1,Nat.lt_of_lt_of_le (hrc.lt g hg).2 hb4W.size⟩
      have hcapW:=hrc.cap;have hcapM:=hrc.capMax;have hbrW:Below wr.heap.size wr W:=hbrW;have hyW:=hown.below hbrW;have hbW:Below (w.heap.size+2) wr W:=hbrW.mono (by omega);have hblW:Below w.heap.size w W:=Zb hbl hbrW;have hJW:=hJ.below hbrW hJ.lt;have hRW:=hR.below hbrW hR.lt;have hKW:=hK0.below hbrW hK0.lt
      have hclW:∀ g,Qac A2=some g→w.heap.size+3≤g∧g<W.heap.size∧Qac A3≠some g:=fun g hg=>by
       have h1:=hloW g hg;refine ⟨by omega,h1.2,fun e=>?_⟩;have h2:=(hown.1.lt g e).2;omega
      have hWsz:w.heap.size+3≤W.heap.size:=by have:=hbrW.size;omega
      have HYY:=Zh hyW;have hownY:=hyW.1;clear hyW;refine Zk 10 (fun K hK=>?_);with_reducible refine Qam (some 22) rfl rfl (.tmp 13) (.tmp 21) 27 rfl 67 _ 1 24 Qgy underlying27 rfl (by omega) rfl rfl hownY hrdW (Qcl _ _ _) (by omega) (by omega) hWsz ?_
      intro A' c' w' hown' hg hat;have hb5:Below (w.heap.size+2) wr w':=Bel.grownOwn hbW hg (hownY.mono (by omega)) (by omega);have hb6:Below w.heap.size w w':=Bel.grownOwn hblW hg (hownY.mono (by omega)) (by omega);have hJ':=hJW.grown hg (hownY.ne (by omega));have hR':=hRW.grown hg (hownY.ne (by omega));have hK':=hKW.grown hg (hownY.ne (by omega));have HYN:=Zh (HYY.out.push hown' hg hat hcW hclW hcapW hcapM);clear hownY hrdW hbW hblW hJW hRW hKW hg hclW hcW hown' hat HYY hbrW hcapW hcapM;refine hK.out _ _ hb5 (fun _=>?_);clear hK K;simp only [Act.put,List.setIfInBounds_toArray,List.set_cons_zero,List.set_cons_succ];refine tz 11 23 ?_;have k3':=hK'.cell 0;simp only [List.getElem?_toArray,List.getElem?_cons_zero] at k3';have kf':=hK'.frozen 0;refine Zk 12 (fun K hK=>?_);go_simp;refine hK.out _ _ (hb5.setCell (by simp only;omega) _) (fun _=>?_);clear hK K;refine Zd ?_;have HK2:=Zh (hK'.set_ 0 (.slice A' (j+1) c'));have HY2:=Zh (HYN.out.far (Qaa w' (w.heap.size+2) 0 (.slice A' (j+1) c')) (by omega));have HB2:=Zh (show Below w.heap.size w (w'.setCell ⟨w.heap.size+2,0,none⟩ (.slice A' (j+1) c')) from hb6.setCell (by simp only;omega) _)
      have HJ2:=Zh (hJ'.far_ (b:=w.heap.size+2) (o:=0) (by omega) (.slice A' (j+1) c'));have HR2:=Zh (hR'.far_ (b:=w.heap.size+2) (o:=0) (by omega) (.slice A' (j+1) c'));clear hK' k3' kf' hJ' hR'
      go_wp2_with fail
      go_roundw
      case rel=>exact ⟨HB2.out,HJ2.out,HR2.out,j+1,A',c',_,by omega,by go_num,HK2.out,by rw [HN.out];exact HY2.out⟩
      case measure=>simp [intOf];omega
    · go_simp
      refine hK.out _ _ (((Zr _ _).alloc (by omega) _).drew) (fun _=>?_);clear hK K;obtain ⟨W3,hW3⟩:∃ W3,W3=(wr.alloc (.cells #[] 3)).drew:=⟨_,rfl⟩;rw [←hW3];have hbr3:Below wr.heap.size wr W3:=by rw [hW3];exact Qah
      have hown0:Own W3 wr.heap.size 3 1 (some ⟨wr.heap.size,0,none⟩) 0 0 []:=by rw [hW3];exact lit0 (Zn _)
      have hrd0:=(HRR.out.below hbr3).rdsI;have hz3:=hbr3.size;clear hW3;refine wpAnyH_ready (rs:=[1,8]) (by kernel_rfl) (by simp) ?_;refine AllReadyH.cons (o:=_) rfl (fun K hK=>?_) (AllReadyH.cons (o:=_) rfl (fun K hK=>?_) AllReadyH.nil)
      · have k3a:W3.cell? ⟨w.heap.size+2,0,none⟩=some (.slice A3 j c3):=(hK0.below hbr3 hK0.lt).cell 0
        go_simp;refine hK.out _ _ (hbr3.mono (by omega)) (fun _=>?_);clear hK K k3a;refine Zk 8 (fun K hK=>?_);with_reducible refine Qam (some 20) rfl rfl (.tmp 14) (.tmp 19) 67 rfl 3 _ 1 8 Qbb underlying67 rfl (by omega) rfl rfl hown0 hrd0 (Qak _) (by omega) (by omega) (by omega) ?_
        intro A2 c2 w4 hrc hg4 _;have hbr4:Below wr.heap.size wr w4:=Bel.grownOwn hbr3 hg4 hown0 (by omega);simp only [Nat.zero_add,List.nil_append] at hrc;clear hg4 hown0 hrd0;refine hK.out _ _ (hbr4.mono (by omega)) (fun _=>?_);clear hK K;simp only [Act.put,List.setIfInBounds_toArray,List.set_cons_zero,List.set_cons_succ,Nat.zero_add];refine Zk 9 (fun K hK=>?_);go_simp;refine hK.out _ _ (Below.alloc (hbr4.mono (by omega)) (by have:=hbr4.size;omega) _) (fun _=>?_);clear hK K;obtain ⟨W,hW⟩:∃ W,W=w4.alloc (.cells #[.slice A2 m c2] 67):=⟨_,rfl⟩;rw [←hW];have hb4W:Below w4.heap.size w4 W:=by rw [hW];exact Qah
        have hrdW:Rds W 1 (some ⟨w4.heap.size,0,none⟩) 1 [.slice A2 m c2]:=by rw [hW];exact (Blk.new w4 67 #[.slice A2 m c2]).rds rfl
        clear hW;have hbrW:Below wr.heap.size wr W:=Zb hbr4 hb4W;have hcW:=hrc.rds.rdI.below hb4W;have hloW:∀ g,Qac A2=some g→wr.heap.size≤g∧g<W.heap.size:=fun g hg=>⟨(hrc.lt g hg).1,Nat.lt_of_lt_of_le (hrc.lt g hg).2 hb4W.size⟩
        have hcapW:=hrc.cap;have hcapM:=hrc.capMax;have hbrW:Below wr.heap.size wr W:=hbrW;have hyW:=hown.below hbrW;have hbW:Below (w.heap.size+2) wr W:=hbrW.mono (by omega);have hblW:Below w.heap.size w W:=Zb hbl hbrW;have hJW:=hJ.below hbrW hJ.lt;have hRW:=hR.below hbrW hR.lt;have hKW:=hK0.below hbrW hK0.lt
        have hclW:∀ g,Qac A2=some g→w.heap.size+3≤g∧g<W.heap.size∧Qac A3≠some g:=fun g hg=>by
         have h1:=hloW g hg;refine ⟨by omega,h1.2,fun e=>?_⟩;have h2:=(hown.1.lt g e).2;omega
        have hWsz:w.heap.size+3≤W.heap.size:=by have:=hbrW.size;omega
        have HYY:=Zh hyW;have hownY:=hyW.1;clear hyW;refine Zk 10 (fun K hK=>?_);with_reducible refine Qam (some 22) rfl rfl (.tmp 13) (.tmp 21) 27 rfl 67 _ 1 24 Qgy underlying27 rfl (by omega) rfl rfl hownY hrdW (Qcl _ _ _) (by omega) (by omega) hWsz ?_
        intro A' c' w' hown' hg hat;have hb5:Below (w.heap.size+2) wr w':=Bel.grownOwn hbW hg (hownY.mono (by omega)) (by omega);have hb6:Below w.heap.size w w':=Bel.grownOwn hblW hg (hownY.mono (by omega)) (by omega);have hJ':=hJW.grown hg (hownY.ne (by omega));have hR':=hRW.grown hg (hownY.ne (by omega));have hK':=hKW.grown hg (hownY.ne (by omega));have HYN:=Zh (HYY.out.push hown' hg hat hcW hclW hcapW hcapM);clear hownY hrdW hbW hblW hJW hRW hKW hg hclW hcW hown' hat HYY hbrW hcapW hcapM;refine hK.out _ _ hb5 (fun _=>?_);clear hK K;simp only [Act.put,List.setIfInBounds_toArray,List.set_cons_zero,List.set_cons_succ];refine tz 11 23 ?_;have k3':=hK'.cell 0;simp only [List.getElem?_toArray,List.getElem?_cons_zero] at k3';have kf':=hK'.frozen 0;refine Zk 12 (fun K hK=>?_);go_simp;refine hK.out _ _ (hb5.setCell (by simp only;omega) _) (fun _=>?_);clear hK K;refine Zd ?_;have HK2:=Zh (hK'.set_ 0 (.slice A' (j+1) c'));have HY2:=Zh (HYN.out.far (Qaa w' (w.heap.size+2) 0 (.slice A' (j+1) c')) (by omega));have HB2:=Zh (show Below w.heap.size w (w'.setCell ⟨w.heap.size+2,0,none⟩ (.slice A' (j+1) c')) from hb6.setCell (by simp only;omega) _)
        have HJ2:=Zh (hJ'.far_ (b:=w.heap.size+2) (o:=0) (by omega) (.slice A' (j+1) c'));have HR2:=Zh (hR'.far_ (b:=w.heap.size+2) (o:=0) (by omega) (.slice A' (j+1) c'));clear hK' k3' kf' hJ' hR'
        go_wp2_with fail
        go_roundw
        case rel=>exact ⟨HB2.out,HJ2.out,HR2.out,j+1,A',c',_,by omega,by go_num,HK2.out,by rw [HN.out];exact HY2.out⟩
        case measure=>simp [intOf];omega
      · with_reducible refine Qam (some 20) rfl rfl (.tmp 14) (.tmp 19) 67 rfl 3 _ 1 8 Qbb underlying67 rfl (by omega) rfl rfl hown0 hrd0 (Qak _) (by omega) (by omega) (by omega) ?_
        intro A2 c2 w4 hrc hg4 _;have hbr4:Below wr.heap.size wr w4:=Bel.grownOwn hbr3 hg4 hown0 (by omega);simp only [Nat.zero_add,List.nil_append] at hrc;clear hg4 hown0 hrd0;refine hK.out _ _ (hbr4.mono (by omega)) (fun _=>?_);clear hK K;simp only [Act.put,List.setIfInBounds_toArray,List.set_cons_zero,List.set_cons_succ,Nat.zero_add];refine wpAnyH_ready (rs:=[1,9]) (by kernel_rfl) (by simp) ?_;refine AllReadyH.cons (o:=_) rfl (fun K hK=>?_) (AllReadyH.cons (o:=_) rfl (fun K hK=>?_) AllReadyH.nil)
        · have k3a:w4.cell? ⟨w.heap.size+2,0,none⟩=some (.slice A3 j c3):=(hK0.below hbr4 hK0.lt).cell 0
          go_simp;refine hK.out _ _ (hbr4.mono (by omega)) (fun _=>?_);clear hK K k3a;refine Zk 9 (fun K hK=>?_);go_simp;refine hK.out _ _ (Below.alloc (hbr4.mono (by omega)) (by have:=hbr4.size;omega) _) (fun _=>?_);clear hK K;obtain ⟨W,hW⟩:∃ W,W=w4.alloc (.cells #[.slice A2 m c2] 67):=⟨_,rfl⟩;rw [←hW];have hb4W:Below w4.heap.size w4 W:=by rw [hW];exact Qah
          have hrdW:Rds W 1 (some ⟨w4.heap.size,0,none⟩) 1 [.slice A2 m c2]:=by rw [hW];exact (Blk.new w4 67 #[.slice A2 m c2]).rds rfl
          clear hW;have hbrW:Below wr.heap.size wr W:=Zb hbr4 hb4W;have hcW:=hrc.rds.rdI.below hb4W;have hloW:∀ g,Qac A2=some g→wr.heap.size≤g∧g<W.heap.size:=fun g hg=>⟨(hrc.lt g hg).1,Nat.lt_of_lt_of_le (hrc.lt g hg).2 hb4W.size⟩
          have hcapW:=hrc.cap;have hcapM:=hrc.capMax;have hbrW:Below wr.heap.size wr W:=hbrW;have hyW:=hown.below hbrW;have hbW:Below (w.heap.size+2) wr W:=hbrW.mono (by omega);have hblW:Below w.heap.size w W:=Zb hbl hbrW;have hJW:=hJ.below hbrW hJ.lt;have hRW:=hR.below hbrW hR.lt;have hKW:=hK0.below hbrW hK0.lt
          have hclW:∀ g,Qac A2=some g→w.heap.size+3≤g∧g<W.heap.size∧Qac A3≠some g:=fun g hg=>by
           have h1:=hloW g hg;refine ⟨by omega,h1.2,fun e=>?_⟩;have h2:=(hown.1.lt g e).2;omega
          have hWsz:w.heap.size+3≤W.heap.size:=by have:=hbrW.size;omega
          have HYY:=Zh hyW;have hownY:=hyW.1;clear hyW;refine Zk 10 (fun K hK=>?_);with_reducible refine Qam (some 22) rfl rfl (.tmp 13) (.tmp 21) 27 rfl 67 _ 1 24 Qgy underlying27 rfl (by omega) rfl rfl hownY hrdW (Qcl _ _ _) (by omega) (by omega) hWsz ?_
          intro A' c' w' hown' hg hat;have hb5:Below (w.heap.size+2) wr w':=Bel.grownOwn hbW hg (hownY.mono (by omega)) (by omega);have hb6:Below w.heap.size w w':=Bel.grownOwn hblW hg (hownY.mono (by omega)) (by omega);have hJ':=hJW.grown hg (hownY.ne (by omega));have hR':=hRW.grown hg (hownY.ne (by omega));have hK':=hKW.grown hg (hownY.ne (by omega));have HYN:=Zh (HYY.out.push hown' hg hat hcW hclW hcapW hcapM);clear hownY hrdW hbW hblW hJW hRW hKW hg hclW hcW hown' hat HYY hbrW hcapW hcapM;refine hK.out _ _ hb5 (fun _=>?_);clear hK K;simp only [Act.put,List.setIfInBounds_toArray,List.set_cons_zero,List.set_cons_succ];refine tz 11 23 ?_;have k3':=hK'.cell 0;simp only [List.getElem?_toArray,List.getElem?_cons_zero] at k3';have kf':=hK'.frozen 0;refine Zk 12 (fun K hK=>?_);go_simp;refine hK.out _ _ (hb5.setCell (by simp only;omega) _) (fun _=>?_);clear hK K;refine Zd ?_;have HK2:=Zh (hK'.set_ 0 (.slice A' (j+1) c'));have HY2:=Zh (HYN.out.far (Qaa w' (w.heap.size+2) 0 (.slice A' (j+1) c')) (by omega));have HB2:=Zh (show Below w.heap.size w (w'.setCell ⟨w.heap.size+2,0,none⟩ (.slice A' (j+1) c')) from hb6.setCell (by simp only;omega) _)
          have HJ2:=Zh (hJ'.far_ (b:=w.heap.size+2) (o:=0) (by omega) (.slice A' (j+1) c'));have HR2:=Zh (hR'.far_ (b:=w.heap.size+2) (o:=0) (by omega) (.slice A' (j+1) c'));clear hK' k3' kf' hJ' hR'
          go_wp2_with fail
          go_roundw
          case rel=>exact ⟨HB2.out,HJ2.out,HR2.out,j+1,A',c',_,by omega,by go_num,HK2.out,by rw [HN.out];exact HY2.out⟩
          case measure=>simp [intOf];omega
        · go_simp
          refine hK.out _ _ (Below.alloc (hbr4.mono (by omega)) (by have:=hbr4.size;omega) _) (fun _=>?_);clear hK K;have k3a:∀ o,(w4.alloc o).cell? ⟨w.heap.size+2,0,none⟩=some (.slice A3 j c3):=fun o=>((hK0.below hbr4 hK0.lt).alloc o).cell 0
          refine Zk 1 (fun K hK=>?_);go_simp;refine hK.out _ _ (Below.alloc (hbr4.mono (by omega)) (by have:=hbr4.size;omega) _) (fun _=>?_);clear hK K;clear k3a;obtain ⟨W,hW⟩:∃ W,W=w4.alloc (.cells #[.slice A2 m c2] 67):=⟨_,rfl⟩;rw [←hW];have hb4W:Below w4.heap.size w4 W:=by rw [hW];exact Qah
          have hrdW:Rds W 1 (some ⟨w4.heap.size,0,none⟩) 1 [.slice A2 m c2]:=by rw [hW];exact (Blk.new w4 67 #[.slice A2 m c2]).rds rfl
          clear hW;have hbrW:Below wr.heap.size wr W:=Zb hbr4 hb4W;have hcW:=hrc.rds.rdI.below hb4W;have hloW:∀ g,Qac A2=some g→wr.heap.size≤g∧g<W.heap.size:=fun g hg=>⟨(hrc.lt g hg).1,Nat.lt_of_lt_of_le (hrc.lt g hg).2 hb4W.size⟩
          have hcapW:=hrc.cap;have hcapM:=hrc.capMax;have hbrW:Below wr.heap.size wr W:=hbrW;have hyW:=hown.below hbrW;have hbW:Below (w.heap.size+2) wr W:=hbrW.mono (by omega);have hblW:Below w.heap.size w W:=Zb hbl hbrW;have hJW:=hJ.below hbrW hJ.lt;have hRW:=hR.below hbrW hR.lt;have hKW:=hK0.below hbrW hK0.lt
          have hclW:∀ g,Qac A2=some g→w.heap.size+3≤g∧g<W.heap.size∧Qac A3≠some g:=fun g hg=>by
           have h1:=hloW g hg;refine ⟨by omega,h1.2,fun e=>?_⟩;have h2:=(hown.1.lt g e).2;omega
          have hWsz:w.heap.size+3≤W.heap.size:=by have:=hbrW.size;omega
          have HYY:=Zh hyW;have hownY:=hyW.1;clear hyW;refine Zk 10 (fun K hK=>?_);with_reducible refine Qam (some 22) rfl rfl (.tmp 13) (.tmp 21) 27 rfl 67 _ 1 24 Qgy underlying27 rfl (by omega) rfl rfl hownY hrdW (Qcl _ _ _) (by omega) (by omega) hWsz ?_
          intro A' c' w' hown' hg hat;have hb5:Below (w.heap.size+2) wr w':=Bel.grownOwn hbW hg (hownY.mono (by omega)) (by omega);have hb6:Below w.heap.size w w':=Bel.grownOwn hblW hg (hownY.mono (by omega)) (by omega);have hJ':=hJW.grown hg (hownY.ne (by omega));have hR':=hRW.grown hg (hownY.ne (by omega));have hK':=hKW.grown hg (hownY.ne (by omega));have HYN:=Zh (HYY.out.push hown' hg hat hcW hclW hcapW hcapM);clear hownY hrdW hbW hblW hJW hRW hKW hg hclW hcW hown' hat HYY hbrW hcapW hcapM;refine hK.out _ _ hb5 (fun _=>?_);clear hK K;simp only [Act.put,List.setIfInBounds_toArray,List.set_cons_zero,List.set_cons_succ];refine tz 11 23 ?_;have k3':=hK'.cell 0;simp only [List.getElem?_toArray,List.getElem?_cons_zero] at k3';have kf':=hK'.frozen 0;refine Zk 12 (fun K hK=>?_);go_simp;refine hK.out _ _ (hb5.setCell (by simp only;omega) _) (fun _=>?_);clear hK K;refine Zd ?_;have HK2:=Zh (hK'.set_ 0 (.slice A' (j+1) c'));have HY2:=Zh (HYN.out.far (Qaa w' (w.heap.size+2) 0 (.slice A' (j+1) c')) (by omega));have HB2:=Zh (show Below w.heap.size w (w'.setCell ⟨w.heap.size+2,0,none⟩ (.slice A' (j+1) c')) from hb6.setCell (by simp only;omega) _)
          have HJ2:=Zh (hJ'.far_ (b:=w.heap.size+2) (o:=0) (by omega) (.slice A' (j+1) c'));have HR2:=Zh (hR'.far_ (b:=w.heap.size+2) (o:=0) (by omega) (.slice A' (j+1) c'));clear hK' k3' kf' hJ' hR'
          go_wp2_with fail
          go_roundw
          case rel=>exact ⟨HB2.out,HJ2.out,HR2.out,j+1,A',c',_,by omega,by go_num,HK2.out,by rw [HN.out];exact HY2.out⟩
          case measure=>simp [intOf];omega
  · obtain rfl:L=j:=by omega
    rw [List.take_of_length_le (by rw [HT.out.1];exact Zn _)] at hown;have q0:=hK0.cell 0;have r0:=hR.cell 0;simp only [List.getElem?_toArray,List.getElem?_cons_zero] at q0 r0;have f0:=hR.frozen 0;have hown2:=hown.far (Qaa wr (w.heap.size+1) 0 (.slice A3 L c3)) (by omega);have HM:=Zh (hown2.rdM (G:=fun b=>w.heap.size≤b∧b<(wr.setCell ⟨w.heap.size+1,0,none⟩ (.slice A3 L c3)).heap.size) (fun b h1 h2=>⟨by omega,h2⟩));have HCP:=Zh (And.intro hown.1.cap hown.1.capMax);clear hown hown2 hR
    go_wp2_with fail
    refine bodyPost_ret (v:=.agg #[.slice A3 L c3]) (by simp [results,results117,go_sem,r0]) rfl ?_;exact ⟨A3,c3,rfl,HM.out,HCP.out.1,HCP.out.2,Qah⟩
set_option maxHeartbeats 1000000 in
theorem Qxk (A B C Q:Option Addr)(n m k c d e L cq:Nat)(N:Qaq) (ls:List (List Int)) (w:World) (h:Qca w A B C n m k N) (hN:Qaw N) (hq:RdT w Q L ls) (hP:Qay N.vs.length ls) :
 Calls prog 60 #[.agg #[.slice A n c,.slice B m d,.slice C k e],.agg #[.slice Q L cq]] w fun r w'=>∃ o,r=.returned (.pointer (some ⟨o,0,none⟩))∧Qgd (msk w' (fun b=>w.heap.size≤b∧b<w'.heap.size)) o N.ar ls∧Below w.heap.size w w':=by
 have HH:=Zh h;have HN:=Zh hN;have HT:=Zh hq;have HP:=Zh hP;have hn4:=hN.lv;have l6:L≤6:=by rw [←hq.1];exact hP.l6
 have HVL:=Zh hn4;clear h hN hq hP hn4
 go_enter func60,ntmps60
 go_wp2_with fail
 (refine Qad ?_;intro w1 hw1)
 have hb1:Below w.heap.size w w1:=by rw [hw1];exact Qah
 have hQ:Blk w1 (w.heap.size+1) 29 #[.slice Q L cq]:=by rw [hw1];exact Qbf
 clear hw1;with_reducible refine (Qrw A B C n m k c d e N w1 (HH.out.below hb1) HN.out).mono ?_
 rintro r w2 ⟨g,rfl,hG,hb2⟩;have hbw2:=Zb hb1 hb2;have HG:=Zh hG.rd;have y0:=(hQ.below hb2 hQ.lt).cell 0;simp only [List.getElem?_toArray,List.getElem?_cons_zero] at y0;clear hG hb2 hQ
 go_wp2_with fail
 with_reducible refine (Qst Q L cq ls w2 (HT.out.below hbw2) (by omega) (fun l hl=>by have:=(HP.out.lvl l hl).len;have:=HVL.out;omega)).mono ?_
 rintro r w3 ⟨Q3,cq3,rfl,hq3,_,_,hb3⟩;have hbw3:=Zb hbw2 hb3;have HQ3:=Zh (hq3.le (Qbj _ _));have HG3:=Zh (HG.out.below hb3);clear hq3 hb3 y0
 go_wp2_with fail
 with_reducible refine (Qtt g N Q3 L cq3 _ ls w3 HG3.out HN.out HQ3.out HP.out rfl).mono ?_
 rintro r w4 ⟨o,rfl,hO,hb4⟩;have hz3:=hbw3.size;have HO:=Zh (hO.le (Qbn (G':=fun b=>w.heap.size≤b∧b<w4.heap.size) (fun b hb=>⟨by omega,hb.2⟩)));have hbw4:=Zb hbw3 hb4;clear hO hb4
 go_wp2_with fail
 go_ret
 exact ⟨o,rfl,HO.out,hbw4⟩
theorem Rds.rdH {w:World}{A:Option Addr}{n:Nat}{M:List Qkz} (h:Rds w 3 A n (Qnc M)):RdH w A n M :=
 ⟨by have:=h.1;rw [Qrg] at this;omega,fun i x hx=>by
  have hc:=fun (q:Nat) (u:Value) (hq:q<3) (hu:(hpc x)[q]?=some u)=>h.2 (i*3+q) u (by rw [Qql M i _ hx q hq];exact hu)
  obtain ⟨b,o,e,c0⟩:=hc 0 _ (by omega) rfl;obtain ⟨b1,o1,e1,c1⟩:=hc 1 _ (by omega) rfl;rw [e] at e1
  cases e1
  obtain ⟨b2,o2,e2,c2⟩:=hc 2 _ (by omega) rfl;rw [e] at e2
  cases e2
  exact ⟨b,o,e,c0,by rw [Nat.add_assoc];exact c1,by rw [Nat.add_assoc];exact c2⟩⟩
theorem infoRHop:(Tryz.prog.info? 58).map (fun i=>(i.zero,i.size,i.bytes))=some (some (.agg #[.int .i64 0,.int .i64 0,.int .i64 0]),3,24):=by kernel_rfl
set_option maxHeartbeats 1000000 in
theorem of21_ok (A:Option Addr)(n c:Nat)(M:List Qkz)(w:World)(h:RdH w A n M)(hn:n≤16384) :
 Calls prog 56 #[.slice A n c] w fun e w'=>(∃ A' c',e=.returned (.slice A' n c')∧RdH w' A' n M)∧Below w.heap.size w w':=by
 have HH:=Zh h;clear h
 go_enter func56,ntmps56
 go_wp2_with fail
 go_loopw [3,4] (fun z q W=>∃ (i:Nat) (R:Option Addr) (cr:Nat),i≤n∧q=.int .i64 i∧z=.slice R i cr∧Own W w.heap.size 58 3 R i cr (Qnc (M.take i))∧Below w.heap.size w W) (fun _ q _=>n-(intOf q).toNat)
 case atStart=>exact ⟨0,none,0,Nat.zero_le _,rfl,rfl,Own.nil _ _ _ _,Zr _ _⟩
 case round =>
  obtain ⟨i,R,cr,hi,rfl,rfl,hown,hbl⟩:=hrel;have HO:=Zh hown;have HB:=Zh hbl
  by_cases hlt:i<n
  rotate_left
  · obtain rfl:n=i:=by omega
    clear hown hbl
    go_wp2_with fail
    go_ret
    refine ⟨⟨R,cr,rfl,?_⟩,HB.out⟩;have:=HO.out.rds.rdH
    rwa [List.take_of_length_le (by rw [HH.out.1];exact Zn _)] at this
  obtain ⟨⟨x1,x2,x3⟩,hx⟩:∃ x,M[i]?=some x:=⟨_,Zg (by rw [HH.out.1];exact hlt)⟩;obtain ⟨b,o,rfl,c0,c1,c2⟩:=HH.out.2 i _ hx;simp only at c0 c1 c2;have i1:(i:Int)<(n:Int):=by omega
  have i2:(0:Int)≤(i:Int):=by omega
  have HSX:=Zh (show ∀ V,Below w.heap.size w V→V.cell? ⟨b,o+i*3,none⟩=some (.int .i64 (x1:Int))∧V.cell? ⟨b,o+i*3+1,none⟩=some (.int .i64 (x2:Int))∧V.cell? ⟨b,o+i*3+2,none⟩=some (.int .i64 (x3:Int)) from
   fun V hV=>⟨Zc hV (Zn _) c0,Zc hV (Zn _) c1,Zc hV (Zn _) c2⟩)
  have HTK:=Zh (show M.take (i+1)=M.take i ++[(x1,x2,x3)] by rw [List.take_add_one,hx];rfl)
  clear hown hbl c0 c1 c2 hx;obtain ⟨W5,hW5⟩:∃ W5,W5=(wr.alloc (.cells #[.int .i64 (x1:Int),.int .i64 (x2:Int),.int .i64 (x3:Int)] 58)).drew:=⟨_,rfl⟩;have hb5:Below wr.heap.size wr W5:=by rw [hW5];exact Qah
  have hrd:Rds W5 3 (some ⟨wr.heap.size,0,none⟩) 1 (Qnc [(x1,x2,x3)]):=by rw [hW5];exact (Blk.new wr 58 #[.int .i64 (x1:Int),.int .i64 (x2:Int),.int .i64 (x3:Int)]).drew.rds rfl
  have hown:=HO.out.below hb5;have HB5:=Zh (Zb HB.out hb5);have hsz:w.heap.size≤W5.heap.size:=HB5.out.size;have hone:∀ u∈Qnc [(x1,x2,x3)],u.oneCell'=true:=by rw [Qhm];exact Qqm _
  have HW5:=Zh hW5;clear hW5 hb5
  go_wp2_with fail
  refine wp_region_held_drew (S:=fun V=>Below w.heap.size w V) (by kernel_rfl) HB.out.drew (fun _=>?_);refine tz 0 11 ?_;refine tz 1 12 ?_;refine tz 2 13 ?_;refine tz 3 14 ?_;refine tz 4 15 ?_;refine tz 5 16 ?_;refine tz 6 17 ?_;refine tz 7 18 ?_;refine tz 8 19 ?_;refine tz 9 20 ?_;refine tz 10 21 ?_;refine tz 11 22 ?_;refine tz 12 23 ?_;refine tz 13 24 ?_;refine tz 14 25 ?_;refine tz 15 26 ?_;refine tz 16 27 ?_;refine Zk 17 (fun K hK=>?_);go_simp;rw [←HW5.out];refine hK.out _ _ HB5.out (fun _=>?_);clear hK K;refine Zk 18 (fun K hK=>?_);with_reducible refine Qam (some 29) rfl rfl (.tmp 11) (.tmp 28) 128 rfl 58 _ 3 24 infoRHop underlying128 rfl (by omega) rfl rfl hown hrd hone (by omega) (by omega) hsz ?_
  intro A3 c3 w8 ho8 hg8 hat8;have hb8:=Bel.grownOwn HB5.out hg8 hown hsz;refine hK.out _ _ hb8 (fun _=>?_);clear hK K;simp only [Act.put,List.setIfInBounds_toArray,List.set_cons_zero,List.set_cons_succ];refine tz 19 3 ?_;refine Zd ?_;have HB8:=Zh hb8;have HO8:=Zh (show Own w8 w.heap.size 58 3 A3 (i+1) c3 (Qnc (M.take (i+1))) by rw [HTK.out,Qhj];exact ho8)
  clear hown hrd hsz ho8 hg8 hat8 hb8 HSX
  go_wp2_with fail
  go_roundw
  case rel=>exact ⟨i+1,A3,c3,by omega,by go_num,rfl,HO8.out,HB8.out⟩
  case measure=>simp [intOf];omega
def Qrd (w:World)(N:Qaq) (ls:List (List Int)) (r:Ending) (w':World):Prop :=
 (∃ (g o:Nat) (CB NC:Nat) (cl:List Int) (F:Nat→Prop),r=.returned (.tuple #[.pointer (some ⟨g,0,none⟩),.pointer (some ⟨o,0,none⟩),.slice (some ⟨CB,0,none⟩) NC NC,.bool true])∧NC=Qbv (Qae N.ar ls)∧GrO w' F g N∧(∀ b,F b→w.heap.size≤b∧b<w'.heap.size)∧Qgd (msk w' (fun b=>¬F b)) o N.ar ls∧RdI (msk w' (fun b=>¬F b)) (some ⟨CB,0,none⟩) NC cl∧Qdh N ls cl)∧Below w.heap.size w w'
set_option maxHeartbeats 1000000 in
theorem Qrs (A B C Q:Option Addr)(n m k c d e L cq:Nat)(N:Qaq) (ls:List (List Int)) (w:World) (h:Qca w A B C n m k N) (hok:Qaw N) (hq:RdT w Q L ls) (hP:Qay N.vs.length ls) (hNC:Qbv (Qae N.ar ls)≤1000000000) :
 Calls prog 17 #[.agg #[.slice A n c,.slice B m d,.slice C k e],.agg #[.slice Q L cq]] w (Qrd w N ls):=by
 unfold Qrd;have HM8:=Zh (fun V (hV:Below w.heap.size w V)=>Qrw A B C n m k c d e N V (h.below hV) hok);have HM17:=Zh (fun V (hV:Below w.heap.size w V)=>Qxk A B C Q n m k c d e L cq N ls V (h.below hV) hok (hq.below hV) hP);have HAL:=Zh (fun V g o (hg:Qeo V g N) (ho:Qgd V o N.ar ls)=>all_ok V g o N ls hg hok ho hP hNC);have HIA:=Zh (fun (cl:List Int) (h1:Qfq N ls ls.length 0 cl) (h2:cl.length=Qbv (Qae N.ar ls))=>h1.all h2);obtain ⟨NC,hNCe⟩:∃ NC,NC=Qbv (Qae N.ar ls):=⟨_,rfl⟩;have HNC:=Zh hNCe;clear h hok hq hP hNC hNCe
 go_enter func17,ntmps17
 go_wp2_with fail
 (refine Qaj ?_;intro w1 hw1)
 have HB1:=Zh (show Below w.heap.size w w1 by rw [hw1];exact Qah)
 have HX:=Zh (show Blk w1 w.heap.size 26 #[.slice A n c,.slice B m d,.slice C k e] by rw [hw1];exact Qbf)
 have HY:=Zh (show Blk w1 (w.heap.size+1) 29 #[.slice Q L cq] by rw [hw1];exact Qbf)
 clear hw1
 have HSX:=Zh (show ∀ V,Below w1.heap.size w1 V→V.cell? ⟨w.heap.size,0,none⟩=some (.slice A n c)∧V.cell? ⟨w.heap.size,1,none⟩=some (.slice B m d)∧V.cell? ⟨w.heap.size,2,none⟩=some (.slice C k e)∧V.cell? ⟨w.heap.size+1,0,none⟩=some (.slice Q L cq) from
  fun V hV=>⟨by rw [(HX.out.below hV HX.out.lt).cell];rfl,by rw [(HX.out.below hV HX.out.lt).cell];rfl,by rw [(HX.out.below hV HX.out.lt).cell];rfl,by rw [(HY.out.below hV HY.out.lt).cell];rfl⟩)
 go_wp2_with fail
 refine wp_region_held_drew (S:=fun V=>Below w1.heap.size w1 V) (by kernel_rfl) (Zr _ _).drew (fun _=>?_);refine tz 0 10 ?_;refine tz 2 12 ?_;refine tz 3 13 ?_;refine Zk 1 (fun K hK=>?_);go_simp;with_reducible refine (HM8.out _ (Zb HB1.out (Zr _ _).drew)).mono ?_
 rintro r w2 ⟨g,rfl,hG,hb2⟩;have hz1:w1.heap.size≤w2.heap.size:=hb2.size;have hb2':Below w1.heap.size w1 w2:=(Zr _ _).drew.trans hb2;have HG2:=Zh hG;go_simp;refine hK.out _ _ hb2' (fun _=>?_);clear hK K hb2 hG;refine Zk 4 (fun K hK=>?_);go_simp;with_reducible refine (HM17.out w2 (Zb HB1.out hb2')).mono ?_
 rintro r w3 ⟨o,rfl,hO,hb3⟩;have hb3':=Zb hb2' hb3;have HG3:=Zh (HG2.out.below hb3);have HO3:=Zh hO;have HZ3:=Zh hb3.size;have HB3:=Zh (Zb HB1.out hb3');go_simp;refine hK.out _ _ hb3' (fun _=>?_);clear hK K hb2' hb3 hb3' hO HG2;refine tz 5 8 ?_;refine tz 6 9 ?_;refine Zd ?_;have HALL:=Zh (HAL.out w3 g o HG3.out.rd (HO3.out.le (Qbj _ _)));clear HSX HM8 HM17 HAL
 go_wp2_with fail
 with_reducible refine HALL.out.mono ?_
 rintro r w4 ⟨CB,cl,rfl,hCB,hCl,hlen,_,hdone,hb4⟩;have HB4:=Zh (Zb HB3.out hb4)
 have HR:=Zh (show GrO w4 (fun b=>w1.heap.size≤b∧b<w2.heap.size) g N∧(∀ b,(fun b=>w1.heap.size≤b∧b<w2.heap.size) b→w.heap.size≤b∧b<w4.heap.size)∧Qgd (msk w4 (fun b=>¬(fun b=>w1.heap.size≤b∧b<w2.heap.size) b)) o N.ar ls∧RdI (msk w4 (fun b=>¬(fun b=>w1.heap.size≤b∧b<w2.heap.size) b)) (some ⟨CB,0,none⟩) (Qbv (Qae N.ar ls)) cl∧Qdh N ls cl from by
  refine ⟨HG3.out.below hb4,fun b hb=>⟨Nat.le_trans HB1.out.size hb.1,by have:=hb4.size;have:=HZ3.out;omega⟩,?_,?_,HIA.out cl hdone hlen⟩
  · refine HO3.out.le (fun a v hc=>?_)
    obtain ⟨h1,h2⟩:=Qaz.1 hc;exact Qaz.2 ⟨fun h3=>by have:=h1.1;have:=h3.2;omega,Zc hb4 (Zn _) h2⟩
  · refine ⟨hlen,fun i x hx=>⟨CB,0,rfl,?_⟩⟩
    refine Qaz.2 ⟨fun h3=>by have h4:CB<w2.heap.size:=h3.2;have:=HZ3.out;omega,?_⟩;rw [hCl.cell,Nat.zero_add,List.getElem?_toArray];exact Qhz hx)
 rw [←HNC.out] at HR ⊢;clear hCB hCl hlen hdone hb4 HALL
 go_wp2_with fail
 refine bodyPost_ret (v:=.tuple #[.pointer (some ⟨g,0,none⟩),.pointer (some ⟨o,0,none⟩),.slice (some ⟨CB,0,none⟩) NC NC,.bool true]) (by simp [results,results17,go_sem]) rfl ?_;exact ⟨⟨g,o,CB,NC,cl,_,rfl,HNC.out,HR.out⟩,HB4.out⟩
section
variable (A B C Q G AE:Option Addr) (n m k c d e L cq cg S ce:Nat) (N:Qaq) (ls:List (List Int)) (EL:List Ent) (CA:Option Addr) (NC cC:Nat) (cl:List Int)
structure HopsP (s t:Nat) (M:List Qkz) (atF smF:Nat→Int) (cc:Int):Prop where
 pos:0<M.length
 a0:atF 0=(s:Int)
 an:atF M.length=(t:Int)
 s0:smF 0=0
 sn:smF M.length=cc
 st:∀ (i x1 x2 x3:Nat),M[i]?=some (x1,x2,x3)→(x2:Int)=atF i∧x2<N.ar.length∧x3<N.ar.length∧atF (i+1)=(x3:Int)∧(x1:Int)=lvI N.vs.length ls (toV N x2) (toV N s) (frV N t)∧(0≤smF i∧smF i≤1152921504606846976)∧∀ v,Qnx N ls (x1:Int) (x2:Int) (x3:Int) v→(0≤v∧v≤1152921504606846976)∧Qfl (smF i) v=smF (i+1)
set_option maxRecDepth 20000 in
set_option maxHeartbeats 4000000 in
theorem Qsr (s t:Nat)(cc:Int)(A9:Option Addr)(n9 c9:Nat)(M:List Qkz)(atF smF:Nat→Int)(xs xt:Tri)(w:World)(h:Qca w A B C n m k N)(hok:Qaw N)(hP:Qay N.vs.length ls)(hO:OvD w Q G AE L S N ls EL)(hc:RdI w CA NC cl)(hA:Qdh N ls cl)
 (hM:RdH w A9 n9 M) (hn9:n9≤16384) (hxs:N.ar[s]?=some xs) (hxt:N.ar[t]?=some xt) (hne:s≠t) (hcc:cc≠1152921504606846976) (hH:HopsP N ls s t M atF smF cc) :
 Calls prog 55 #[.agg #[.slice A n c,.slice B m d,.slice C k e],.agg #[.slice A n c,.slice B m d,.slice C k e,.slice Q L cq,.slice G L cg,.slice AE S ce],.slice CA NC cC,.int .i64 s,.int .i64 t,.int .i64 cc,.slice A9 n9 c9] w fun r w'=>r=.returned (.bool true)∧Below w.heap.size w w':=by
 have HNV:=Zh (show N.vs.length=n from h.1.1)
 have HNA:=Zh (show N.ar.length=m from h.2.1.1)
 have hm:m≤16384:=by rw [←h.2.1.1];exact hok.la
 have HPR:=Zh (fun (lv f u:Int) V (hV:Below w.heap.size w V)=>Qpr A B C Q G AE n m k c d e L cq cg S ce (.slice A n c) (.slice B m d) (.slice C k e) N ls EL CA NC cC cl lv f u V (h.below hV) hok hP (hO.below hV) (hc.below hV) hA);have HLE:=Zh (fun (v a b:Int) V (hV:Below w.heap.size w V)=>Qqk A Q n c L cq (.slice B m d) (.slice C k e) (.slice G L cg) (.slice AE S ce) ls v a b V (hO.q.below hV) (by rw [←h.1.1];exact hP));have HTH:=Zh (fun (x:Nat) (hx:x<m) V=>Qdu A B C n m k c d e (x:Int) V (by omega) (by omega));have HMM:=Zh hM;have HNET:=Zh h;have HH:=Zh hH;have HN9:=Zh hM.1;have HXS:=Zh hxs;have HXT:=Zh hxt;have i1:(cc == 1152921504606846976)=false:=by simpa using hcc
 have i2:((s:Int) == (t:Int))=false:=by simp;omega
 clear h hok hP hO hc hA hM hxs hxt hne hH
 go_enter func55,ntmps55
 go_wp2_with fail
 (refine Qaj ?_;intro w1 hw1)
 have HB1:=Zh (show Below w.heap.size w w1 by rw [hw1];exact Qah)
 have HX:=Zh (show Blk w1 w.heap.size 26 #[.slice A n c,.slice B m d,.slice C k e] by rw [hw1];exact Qbf)
 have HY:=Zh (show Blk w1 (w.heap.size+1) 40 #[.slice A n c,.slice B m d,.slice C k e,.slice Q L cq,.slice G L cg,.slice AE S ce] by rw [hw1];exact Qbf)
 clear hw1
 go_loopw [15,16,17] (fun ua us q W=>∃ i:Nat,i≤n9∧q=.int .i64 i∧ua=.int .i64 (atF i)∧us=.int .i64 (smF i)∧Below w1.heap.size w1 W) (fun _ _ q _=>n9-(intOf q).toNat)
 case atStart=>exact ⟨0,Nat.zero_le _,rfl,by rw [HH.out.a0],by rw [HH.out.s0],Zr _ _⟩
 case round =>
  obtain ⟨i,hi,rfl,rfl,rfl,hbl⟩:=hrel;have HBL:=Zh hbl
  by_cases hlt:i<n9
  rotate_left
  · obtain rfl:n9=i:=by omega
    have e1:atF n9=(t:Int):=by rw [←HN9.out];exact HH.out.an
    have e2:smF n9=cc:=by rw [←HN9.out];exact HH.out.sn
    have e3:0<n9:=by rw [←HN9.out];exact HH.out.pos
    have e4:(0:Int)<(n9:Int):=by omega
    rw [e1,e2];clear hbl e1 e2
    go_wp2_with fail
    go_ret
    exact ⟨rfl,Zb HB1.out HBL.out⟩
  obtain ⟨⟨x1,x2,x3⟩,hx⟩:∃ x,M[i]?=some x:=⟨_,Zg (by rw [HN9.out];exact hlt)⟩;obtain ⟨g1,g2,g3,g4,g5,g6,g7⟩:=HH.out.st i x1 x2 x3 hx;have hbw:=Zb HB1.out hbl;obtain ⟨b9,o9,hA9,k0,k1,k2⟩:=(HMM.out.le (Le.below hbw)).2 i _ hx;simp only at k0 k1 k2;obtain ⟨y,hy⟩:∃ y,N.ar[x2]?=some y:=⟨_,Zg g2⟩;have hx2m:x2<m:=by rw [←HNA.out];exact g2
  have hx3m:x3<m:=by rw [←HNA.out];exact g3
  have hsm:s<m:=by rw [←HNA.out];exact (Zs HXS.out).1
  have htm:t<m:=by rw [←HNA.out];exact (Zs HXT.out).1
  obtain ⟨ab,ao,hB,_,d1,_⟩:=(HNET.out.below hbw).2.1.2 x2 y hy;obtain ⟨_,_,e1,_,s1,_⟩:=(HNET.out.below hbw).2.1.2 s xs HXS.out;rw [hB] at e1
  cases e1
  obtain ⟨_,_,e1,t1,_,_⟩:=(HNET.out.below hbw).2.1.2 t xt HXT.out;rw [hB] at e1
  cases e1
  subst hB;rw [←g1];have HAT:=Zh g1;have HA1:=Zh g4;have HSM:=Zh g6;have HAD:=Zh g7;have HLV:=Zh (show (x1:Int)=lvI n ls y.2.1 xs.2.1 xt.1 by rw [g5,(Qbo hy).1,(Qbo HXS.out).1,(Qbo HXT.out).2.1,HNV.out])
  have HTH3:=Zh (fun V=>HTH.out x3 hx3m V);have j1:(i:Int)<(n9:Int):=by omega
  have j2:(0:Int)≤(i:Int):=by omega
  have j3:(x2:Int)<(m:Int):=by omega
  have j4:(0:Int)≤(x2:Int):=by omega
  have j5:(s:Int)<(m:Int):=by omega
  have j6:(0:Int)≤(s:Int):=by omega
  have j7:(t:Int)<(m:Int):=by omega
  have j8:(0:Int)≤(t:Int):=by omega
  have j9:((x2:Int) != (x2:Int))=false:=by simp
  have ja:((x1:Int) != (x1:Int))=false:=by simp
  clear g1 g2 g3 g4 g5 g6 g7 hbl;obtain ⟨sa,hsa⟩:∃ sa,sa=smF i:=⟨_,rfl⟩;rw [←hsa];have HSA:=Zh hsa;clear hsa;subst hA9
  go_wp2_with fail
  (refine Qaj ?_;intro w2 hw2)
  have hb2:Below wr.heap.size wr w2:=by rw [hw2];exact Qah
  have HZ:=Zh (show Blk w2 wr.heap.size 58 #[.int .i64 (x1:Int),.int .i64 (x2:Int),.int .i64 (x3:Int)] by rw [hw2];refine Blk.new' _ _ _ ?_;rfl)
  clear hw2;have HBL2:=Zh (Zb HBL.out hb2)
  have HSX:=Zh (show ∀ V,Below w2.heap.size w2 V→V.cell? ⟨w.heap.size,0,none⟩=some (.slice A n c)∧V.cell? ⟨w.heap.size,1,none⟩=some (.slice (some ⟨ab,ao,none⟩) m d)∧V.cell? ⟨w.heap.size,2,none⟩=some (.slice C k e) ∧
   V.cell? ⟨w.heap.size+1,0,none⟩=some (.slice A n c)∧V.cell? ⟨w.heap.size+1,1,none⟩=some (.slice (some ⟨ab,ao,none⟩) m d)∧V.cell? ⟨w.heap.size+1,2,none⟩=some (.slice C k e)∧V.cell? ⟨w.heap.size+1,3,none⟩=some (.slice Q L cq)∧V.cell? ⟨w.heap.size+1,4,none⟩=some (.slice G L cg)∧V.cell? ⟨w.heap.size+1,5,none⟩=some (.slice AE S ce) ∧
   V.cell? ⟨wr.heap.size,0,none⟩=some (.int .i64 (x1:Int))∧V.cell? ⟨wr.heap.size,1,none⟩=some (.int .i64 (x2:Int))∧V.cell? ⟨wr.heap.size,2,none⟩=some (.int .i64 (x3:Int)) ∧
   V.cell? ⟨ab,ao+x2*3+1,none⟩=some (.int .i64 y.2.1)∧V.cell? ⟨ab,ao+s*3+1,none⟩=some (.int .i64 xs.2.1)∧V.cell? ⟨ab,ao+t*3,none⟩=some (.int .i64 xt.1) from fun V hV=>by
   have hV':=Zb HBL2.out hV;have hX':=HX.out.below hV' HX.out.lt;have hY':=HY.out.below hV' HY.out.lt;have hZ':=HZ.out.below hV HZ.out.lt;have hVr:=Zb hb2 hV
   exact ⟨Zq hX',Zq hX',Zq hX',Zq hY',Zq hY',Zq hY',Zq hY',Zq hY',Zq hY',Zq hZ',Zq hZ',Zq hZ',
    Zc hVr (Zn _) d1,Zc hVr (Zn _) s1,Zc hVr (Zn _) t1⟩)
  clear hb2 d1 s1 t1 k0 k1 k2 hbw hx hy
  go_wp2_with fail
  refine wp_region_held_drew (S:=fun V=>Below w2.heap.size w2 V) (by kernel_rfl) (Zr _ _).drew (fun _=>?_);refine tz 0 40 ?_;refine tz 1 41 ?_;refine tz 2 42 ?_;refine tz 3 43 ?_;refine tz 4 44 ?_;refine tz 5 45 ?_;refine tz 6 46 ?_;refine tz 7 47 ?_;refine Zk 8 (fun K hK=>?_);go_simp;with_reducible refine (HTH3.out _).mono ?_
  rintro r w3 ⟨rfl,hb3⟩;have hb3':Below w2.heap.size w2 w3:=(Zr _ _).drew.trans hb3;go_simp;refine hK.out _ _ hb3' (fun _=>?_);clear hK K hb3;refine tz 9 49 ?_;refine tz 10 50 ?_;refine tz 11 51 ?_;refine tz 12 52 ?_;refine tz 13 53 ?_;refine tz 14 54 ?_;refine tz 15 55 ?_;refine tz 16 56 ?_;refine tz 17 57 ?_;refine tz 18 58 ?_;refine tz 19 59 ?_;refine tz 20 60 ?_;refine tz 21 61 ?_;refine tz 22 62 ?_;refine tz 23 63 ?_;refine tz 24 64 ?_;refine tz 25 65 ?_;refine tz 26 66 ?_;refine tz 27 67 ?_;refine tz 28 68 ?_;refine tz 29 69 ?_;refine tz 30 70 ?_;refine tz 31 71 ?_;refine tz 32 72 ?_;refine Zk 33 (fun K hK=>?_);go_simp;have HLEV:=Zh (HLE.out y.2.1 xs.2.1 xt.1 w3 (Zb HB1.out (Zb HBL2.out hb3')));rw [←HLV.out] at HLEV;with_reducible refine HLEV.out.mono ?_
  rintro r w4 ⟨rfl,hb4⟩;have hb4':Below w2.heap.size w2 w4:=Zb hb3' hb4;go_simp;refine hK.out _ _ hb4' (fun _=>?_);clear hK K hb4 HLEV;refine tz 34 74 ?_;refine tz 35 75 ?_;refine Zd ?_;obtain ⟨v0,v1,v2,v3,v4,v5,v6,v7,v8,v9,va,vb,_,_,_⟩:=HSX.out w4 hb4';have HB4:=Zh hb4';clear hb3' hb4' HSX
  go_wp2_with fail
  with_reducible refine (HPR.out x1 x2 x3 w4 (Zb HB1.out (Zb HBL2.out HB4.out))).mono ?_
  unfold PrR;rintro r w5 ⟨⟨v,rfl,hv⟩,hb5⟩;obtain ⟨hv1,hv2⟩:=HAD.out v hv;have HAV:=Zh hv2;have hb5':=Zb HB4.out hb5;have HADD:=Zh (Qiz sa v w5 (by rw [HSA.out];exact HSM.out) hv1);have vb5:=((HZ.out.below hb5' HZ.out.lt).three).2.2;have HB5:=Zh (Zb HBL2.out hb5');clear hv hv1 hv2 hb5 hb5' v0 v1 v2 v3 v4 v5 v6 v7 v8 v9 va vb
  go_wp2_with fail
  with_reducible refine HADD.out.mono ?_
  rintro r w' ⟨rfl,rfl⟩
  go_wp2_with fail
  go_roundw
  case rel=>exact ⟨i+1,by omega,by go_num,by rw [HA1.out],by rw [←HAV.out,HSA.out],HB5.out⟩
  case measure=>simp [intOf];omega
end
end Go.Proofs.YteaoiabikjnkeaaGreatDoor
