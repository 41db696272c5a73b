/- Parts of the proof: Po, Md, AsG. -/
import Derived.Test.YteaoiabikjnkeaaGreatDoorR1
import Derived.Test.YteaoiabikjnkeaaGreatDoorR13
import Derived.Test.YteaoiabikjnkeaaGreatDoorR16
import Derived.Test.YteaoiabikjnkeaaGreatDoorR23
import Derived.Test.YteaoiabikjnkeaaGreatDoorR36
import Derived.Test.YteaoiabikjnkeaaGreatDoorR38
namespace Go.Proofs.YteaoiabikjnkeaaGreatDoor
open Go.RowKit Go.Proofs.Tryz
attribute [local go_sem ↓] Go.wp_at_zero Go.wp_at_succ
set_option maxHeartbeats 4000000 in
set_option maxRecDepth 20000 in
theorem Qtd (Q:Option Addr)(L cq:Nat) (ls:List (List Int)) (w:World) (h:RdT w Q L ls) (hL:L≤1000000) (hc:∀ l∈ls,l.length≤1000000) :
 Calls prog 117 #[.agg #[.slice Q L cq]] w fun r w'=>∃ Q' cq',r=.returned (.agg #[.slice Q' L cq'])∧RdT (msk w' (fun b=>w.heap.size≤b∧b<w'.heap.size)) Q' L ls∧L≤cq'∧cq'≤9223372036854775807∧Below w.heap.size w w':=by
 have HT:=Zh h;have HC:=Zh hc;clear h hc
 go_enter func117,ntmps117
 go_wp2_with fail
 (refine Qak ?_;intro w1 hw1)
 have hb1:Below w.heap.size w w1:=by rw [hw1];exact Qah
 have hJ:Blk w1 w.heap.size 29 #[.slice Q L cq]:=by rw [hw1];exact Qbg
 have hR:Blk w1 (w.heap.size+1) 87 #[.slice none 0 0]:=by rw [hw1];exact Qbg
 have hK0:Blk w1 (w.heap.size+2) 87 #[.slice none 0 0]:=by rw [hw1];exact Qbg
 clear hw1
 go_loopw [4] (fun i W=>Below w.heap.size w W∧Blk W w.heap.size 29 #[.slice Q L cq]∧Blk W (w.heap.size+1) 87 #[.slice none 0 0]∧∃ (j:Nat) (A3:Option Addr) (c3:Nat) (xs:List Value),j≤L∧i=.int .i64 j∧Blk W (w.heap.size+2) 87 #[.slice A3 j c3]∧RwL W (w.heap.size+3) A3 j c3 xs (ls.take j)) (fun i _=>L-(intOf i).toNat)
 case atStart=>exact ⟨hb1,hJ,hR,0,none,0,[],Nat.zero_le _,rfl,hK0,by simpa using RwL.nil _ _⟩
 case round =>
  clear hb1 hJ hR hK0;obtain ⟨hbl,hJ,hR,j,A3,c3,xs,hj,rfl,hK0,hown⟩:=hrel;have j0:=hJ.cell 0;simp only [List.getElem?_toArray,List.getElem?_cons_zero] at j0
  by_cases hlt:j<L
  · obtain ⟨sb,so,Ar,m,cr,l,rfl,hl,hcl,hr,hq1,hq2⟩:=HT.out.at_ hlt
    have HN:=Zh (show ls.take (j+1)=ls.take j ++[l] by
     rw [List.take_succ_eq_append_getElem (Zs hl).1,(Zs hl).2])
    have hm:m≤1000000:=by have:=HC.out l (Zm hl);rw [hr.1] at this;exact this
    have dcl:=Zc hbl (Zn _) hcl;have HSB:=Zh (Qaj hcl);have HRR:=Zh (hr.below hbl);have i3:(0:Int)≤(j:Int):=by omega
    have i4:(j:Int)<(L:Int):=by omega
    have hsz:w.heap.size+3≤wr.heap.size:=by have:=hK0.lt;omega
    clear hr hl hcl hq1 hq2
    have HSX:=Zh (show ∀ V,Below (w.heap.size+2) wr V→V.cell? ⟨w.heap.size,0,none⟩=some (.slice (some ⟨sb,so,none⟩) L cq)∧V.cell? ⟨sb,so+j,none⟩=some (.slice Ar m cr) from
     fun V hb=>⟨(hb.cell (by simp only;omega)).trans j0,(hb.cell (by have:=Qaj dcl;have:=HSB.out;simp only at this ⊢;omega)).trans dcl⟩)
    go_wp2_with fail
    refine wp_region_held_drew (S:=fun V=>Below (w.heap.size+2) wr V) (by kernel_rfl) (Zr _ _).drew (fun _=>?_);refine tz 0 12 ?_;refine tz 3 15 ?_;refine tz 4 16 ?_;refine tz 5 17 ?_;refine tz 6 18 ?_;refine tz 7 19 ?_;refine wpAnyH_ready (rs:=[1,2]) (by kernel_rfl) (by simp) ?_;refine AllReadyH.cons (o:=_) rfl (fun K hK=>?_) (AllReadyH.cons (o:=_) rfl (fun K hK=>?_) AllReadyH.nil)
    · have k3a:=hK0.cell 0
      simp only [List.getElem?_toArray,List.getElem?_cons_zero] at k3a;go_simp;refine hK.out _ _ (Zr _ _).drew (fun _=>?_);clear hK K k3a;refine Zk 2 (fun K hK=>?_);go_simp;refine hK.out _ _ (((Zr _ _).alloc (by omega) _).drew) (fun _=>?_);clear hK K;obtain ⟨W3,hW3⟩:∃ W3,W3=(wr.alloc (.cells #[] 3)).drew:=⟨_,rfl⟩;rw [←hW3];have hbr3:Below wr.heap.size wr W3:=by rw [hW3];exact Qah
      have hown0:Own W3 wr.heap.size 3 1 (some ⟨wr.heap.size,0,none⟩) 0 0 []:=by rw [hW3];exact lit0 (Zn _)
      have hrd0:=(HRR.out.below hbr3).rdsI;have hz3:=hbr3.size;clear hW3;refine Zk 8 (fun K hK=>?_);with_reducible refine Qal (some 20) rfl rfl (.tmp 14) (.tmp 19) 67 rfl 3 _ 1 8 Qbc underlying67 rfl (by omega) rfl rfl hown0 hrd0 (Qai _) (by omega) (by omega) (by omega) ?_
      intro A2 c2 w4 hrc hg4 _;have hbr4:Below wr.heap.size wr w4:=Bel.grownOwn hbr3 hg4 hown0 (by omega);simp only [Nat.zero_add,List.nil_append] at hrc;clear hg4 hown0 hrd0;refine hK.out _ _ (hbr4.mono (by omega)) (fun _=>?_);clear hK K;simp only [Act.put,List.setIfInBounds_toArray,List.set_cons_zero,List.set_cons_succ,Nat.zero_add];refine Zk 9 (fun K hK=>?_);go_simp;refine hK.out _ _ (Below.alloc (hbr4.mono (by omega)) (by have:=hbr4.size;omega) _) (fun _=>?_);clear hK K;obtain ⟨W,hW⟩:∃ W,W=w4.alloc (.cells #[.slice A2 m c2] 67):=⟨_,rfl⟩;rw [←hW];have hb4W:Below w4.heap.size w4 W:=by rw [hW];exact Qah
      have hrdW:Rds W 1 (some ⟨w4.heap.size,0,none⟩) 1 [.slice A2 m c2]:=by rw [hW];exact (Blk.new w4 67 #[.slice A2 m c2]).rds rfl
      clear hW;have hbrW:Below wr.heap.size wr W:=Zb hbr4 hb4W;have hcW:=hrc.rds.rdI.below hb4W;have hloW:∀ g,Qab A2=some g→wr.heap.size≤g∧g<W.heap.size:=fun g hg=>⟨(hrc.lt g hg).1,Nat.lt_of_lt_of_le (hrc.lt g hg).2 hb4W.size⟩
      have hcapW:=hrc.cap;have hcapM:=hrc.capMax;have hbrW:Below wr.heap.size wr W:=hbrW;have hyW:=hown.below hbrW;have hbW:Below (w.heap.size+2) wr W:=hbrW.mono (by omega);have hblW:Below w.heap.size w W:=Zb hbl hbrW;have hJW:=hJ.below hbrW hJ.lt;have hRW:=hR.below hbrW hR.lt;have hKW:=hK0.below hbrW hK0.lt
      have hclW:∀ g,Qab A2=some g→w.heap.size+3≤g∧g<W.heap.size∧Qab A3≠some g:=fun g hg=>by
       have h1:=hloW g hg;refine ⟨by omega,h1.2,fun e=>?_⟩;have h2:=(hown.1.lt g e).2;omega
      have hWsz:w.heap.size+3≤W.heap.size:=by have:=hbrW.size;omega
      have HYY:=Zh hyW;have hownY:=hyW.1;clear hyW;refine Zk 10 (fun K hK=>?_);with_reducible refine Qal (some 22) rfl rfl (.tmp 13) (.tmp 21) 27 rfl 67 _ 1 24 Qgo underlying27 rfl (by omega) rfl rfl hownY hrdW (Qce _ _ _) (by omega) (by omega) hWsz ?_
      intro A' c' w' hown' hg hat;have hb5:Below (w.heap.size+2) wr w':=Bel.grownOwn hbW hg (hownY.mono (by omega)) (by omega);have hb6:Below w.heap.size w w':=Bel.grownOwn hblW hg (hownY.mono (by omega)) (by omega);have hJ':=hJW.grown hg (hownY.ne (by omega));have hR':=hRW.grown hg (hownY.ne (by omega));have hK':=hKW.grown hg (hownY.ne (by omega));have HYN:=Zh (HYY.out.push hown' hg hat hcW hclW hcapW hcapM);clear hownY hrdW hbW hblW hJW hRW hKW hg hclW hcW hown' hat HYY hbrW hcapW hcapM;refine hK.out _ _ hb5 (fun _=>?_);clear hK K;simp only [Act.put,List.setIfInBounds_toArray,List.set_cons_zero,List.set_cons_succ];refine tz 11 23 ?_;have k3':=hK'.cell 0;simp only [List.getElem?_toArray,List.getElem?_cons_zero] at k3';have kf':=hK'.frozen 0;refine Zk 12 (fun K hK=>?_);go_simp;refine hK.out _ _ (hb5.setCell (by simp only;omega) _) (fun _=>?_);clear hK K;refine Zd ?_;have HK2:=Zh (hK'.set_ 0 (.slice A' (j+1) c'));have HY2:=Zh (HYN.out.far (Qaa w' (w.heap.size+2) 0 (.slice A' (j+1) c')) (by omega));have HB2:=Zh (show Below w.heap.size w (w'.setCell ⟨w.heap.size+2,0,none⟩ (.slice A' (j+1) c')) from hb6.setCell (by simp only;omega) _)
      have HJ2:=Zh (hJ'.far_ (b:=w.heap.size+2) (o:=0) (by omega) (.slice A' (j+1) c'));have HR2:=Zh (hR'.far_ (b:=w.heap.size+2) (o:=0) (by omega) (.slice A' (j+1) c'));clear hK' k3' kf' hJ' hR'
      go_wp2_with fail
      go_roundw
      case rel=>exact ⟨HB2.out,HJ2.out,HR2.out,j+1,A',c',_,by omega,by go_num,HK2.out,by rw [HN.out];exact HY2.out⟩
      case measure=>simp [intOf];omega
    · go_simp
      refine hK.out _ _ (((Zr _ _).alloc (by omega) _).drew) (fun _=>?_);clear hK K;obtain ⟨W3,hW3⟩:∃ W3,W3=(wr.alloc (.cells #[] 3)).drew:=⟨_,rfl⟩;rw [←hW3];have hbr3:Below wr.heap.size wr W3:=by rw [hW3];exact Qah
      have hown0:Own W3 wr.heap.size 3 1 (some ⟨wr.heap.size,0,none⟩) 0 0 []:=by rw [hW3];exact lit0 (Zn _)
      have hrd0:=(HRR.out.below hbr3).rdsI;have hz3:=hbr3.size;clear hW3;refine wpAnyH_ready (rs:=[1,8]) (by kernel_rfl) (by simp) ?_;refine AllReadyH.cons (o:=_) rfl (fun K hK=>?_) (AllReadyH.cons (o:=_) rfl (fun K hK=>?_) AllReadyH.nil)
      · have k3a:W3.cell? ⟨w.heap.size+2,0,none⟩=some (.slice A3 j c3):=(hK0.below hbr3 hK0.lt).cell 0
        go_simp;refine hK.out _ _ (hbr3.mono (by omega)) (fun _=>?_);clear hK K k3a;refine Zk 8 (fun K hK=>?_);with_reducible refine Qal (some 20) rfl rfl (.tmp 14) (.tmp 19) 67 rfl 3 _ 1 8 Qbc underlying67 rfl (by omega) rfl rfl hown0 hrd0 (Qai _) (by omega) (by omega) (by omega) ?_
        intro A2 c2 w4 hrc hg4 _;have hbr4:Below wr.heap.size wr w4:=Bel.grownOwn hbr3 hg4 hown0 (by omega);simp only [Nat.zero_add,List.nil_append] at hrc;clear hg4 hown0 hrd0;refine hK.out _ _ (hbr4.mono (by omega)) (fun _=>?_);clear hK K;simp only [Act.put,List.setIfInBounds_toArray,List.set_cons_zero,List.set_cons_succ,Nat.zero_add];refine Zk 9 (fun K hK=>?_);go_simp;refine hK.out _ _ (Below.alloc (hbr4.mono (by omega)) (by have:=hbr4.size;omega) _) (fun _=>?_);clear hK K;obtain ⟨W,hW⟩:∃ W,W=w4.alloc (.cells #[.slice A2 m c2] 67):=⟨_,rfl⟩;rw [←hW];have hb4W:Below w4.heap.size w4 W:=by rw [hW];exact Qah
        have hrdW:Rds W 1 (some ⟨w4.heap.size,0,none⟩) 1 [.slice A2 m c2]:=by rw [hW];exact (Blk.new w4 67 #[.slice A2 m c2]).rds rfl
        clear hW;have hbrW:Below wr.heap.size wr W:=Zb hbr4 hb4W;have hcW:=hrc.rds.rdI.below hb4W;have hloW:∀ g,Qab A2=some g→wr.heap.size≤g∧g<W.heap.size:=fun g hg=>⟨(hrc.lt g hg).1,Nat.lt_of_lt_of_le (hrc.lt g hg).2 hb4W.size⟩
        have hcapW:=hrc.cap;have hcapM:=hrc.capMax;have hbrW:Below wr.heap.size wr W:=hbrW;have hyW:=hown.below hbrW;have hbW:Below (w.heap.size+2) wr W:=hbrW.mono (by omega);have hblW:Below w.heap.size w W:=Zb hbl hbrW;have hJW:=hJ.below hbrW hJ.lt;have hRW:=hR.below hbrW hR.lt;have hKW:=hK0.below hbrW hK0.lt
        have hclW:∀ g,Qab A2=some g→w.heap.size+3≤g∧g<W.heap.size∧Qab A3≠some g:=fun g hg=>by
         have h1:=hloW g hg;refine ⟨by omega,h1.2,fun e=>?_⟩;have h2:=(hown.1.lt g e).2;omega
        have hWsz:w.heap.size+3≤W.heap.size:=by have:=hbrW.size;omega
        have HYY:=Zh hyW;have hownY:=hyW.1;clear hyW;refine Zk 10 (fun K hK=>?_);with_reducible refine Qal (some 22) rfl rfl (.tmp 13) (.tmp 21) 27 rfl 67 _ 1 24 Qgo underlying27 rfl (by omega) rfl rfl hownY hrdW (Qce _ _ _) (by omega) (by omega) hWsz ?_
        intro A' c' w' hown' hg hat;have hb5:Below (w.heap.size+2) wr w':=Bel.grownOwn hbW hg (hownY.mono (by omega)) (by omega);have hb6:Below w.heap.size w w':=Bel.grownOwn hblW hg (hownY.mono (by omega)) (by omega);have hJ':=hJW.grown hg (hownY.ne (by omega));have hR':=hRW.grown hg (hownY.ne (by omega));have hK':=hKW.grown hg (hownY.ne (by omega));have HYN:=Zh (HYY.out.push hown' hg hat hcW hclW hcapW hcapM);clear hownY hrdW hbW hblW hJW hRW hKW hg hclW hcW hown' hat HYY hbrW hcapW hcapM;refine hK.out _ _ hb5 (fun _=>?_);clear hK K;simp only [Act.put,List.setIfInBounds_toArray,List.set_cons_zero,List.set_cons_succ];refine tz 11 23 ?_;have k3':=hK'.cell 0;simp only [List.getElem?_toArray,List.getElem?_cons_zero] at k3';have kf':=hK'.frozen 0;refine Zk 12 (fun K hK=>?_);go_simp;refine hK.out _ _ (hb5.setCell (by simp only;omega) _) (fun _=>?_);clear hK K;refine Zd ?_;have HK2:=Zh (hK'.set_ 0 (.slice A' (j+1) c'));have HY2:=Zh (HYN.out.far (Qaa w' (w.heap.size+2) 0 (.slice A' (j+1) c')) (by omega));have HB2:=Zh (show Below w.heap.size w (w'.setCell ⟨w.heap.size+2,0,none⟩ (.slice A' (j+1) c')) from hb6.setCell (by simp only;omega) _)
        have HJ2:=Zh (hJ'.far_ (b:=w.heap.size+2) (o:=0) (by omega) (.slice A' (j+1) c'));have HR2:=Zh (hR'.far_ (b:=w.heap.size+2) (o:=0) (by omega) (.slice A' (j+1) c'));clear hK' k3' kf' hJ' hR'
        go_wp2_with fail
        go_roundw
        case rel=>exact ⟨HB2.out,HJ2.out,HR2.out,j+1,A',c',_,by omega,by go_num,HK2.out,by rw [HN.out];exact HY2.out⟩
        case measure=>simp [intOf];omega
      · with_reducible refine Qal (some 20) rfl rfl (.tmp 14) (.tmp 19) 67 rfl 3 _ 1 8 Qbc underlying67 rfl (by omega) rfl rfl hown0 hrd0 (Qai _) (by omega) (by omega) (by omega) ?_
        intro A2 c2 w4 hrc hg4 _;have hbr4:Below wr.heap.size wr w4:=Bel.grownOwn hbr3 hg4 hown0 (by omega);simp only [Nat.zero_add,List.nil_append] at hrc;clear hg4 hown0 hrd0;refine hK.out _ _ (hbr4.mono (by omega)) (fun _=>?_);clear hK K;simp only [Act.put,List.setIfInBounds_toArray,List.set_cons_zero,List.set_cons_succ,Nat.zero_add];refine wpAnyH_ready (rs:=[1,9]) (by kernel_rfl) (by simp) ?_;refine AllReadyH.cons (o:=_) rfl (fun K hK=>?_) (AllReadyH.cons (o:=_) rfl (fun K hK=>?_) AllReadyH.nil)
        · have k3a:w4.cell? ⟨w.heap.size+2,0,none⟩=some (.slice A3 j c3):=(hK0.below hbr4 hK0.lt).cell 0
          go_simp;refine hK.out _ _ (hbr4.mono (by omega)) (fun _=>?_);clear hK K k3a;refine Zk 9 (fun K hK=>?_);go_simp;refine hK.out _ _ (Below.alloc (hbr4.mono (by omega)) (by have:=hbr4.size;omega) _) (fun _=>?_);clear hK K;obtain ⟨W,hW⟩:∃ W,W=w4.alloc (.cells #[.slice A2 m c2] 67):=⟨_,rfl⟩;rw [←hW];have hb4W:Below w4.heap.size w4 W:=by rw [hW];exact Qah
          have hrdW:Rds W 1 (some ⟨w4.heap.size,0,none⟩) 1 [.slice A2 m c2]:=by rw [hW];exact (Blk.new w4 67 #[.slice A2 m c2]).rds rfl
          clear hW;have hbrW:Below wr.heap.size wr W:=Zb hbr4 hb4W;have hcW:=hrc.rds.rdI.below hb4W;have hloW:∀ g,Qab A2=some g→wr.heap.size≤g∧g<W.heap.size:=fun g hg=>⟨(hrc.lt g hg).1,Nat.lt_of_lt_of_le (hrc.lt g hg).2 hb4W.size⟩
          have hcapW:=hrc.cap;have hcapM:=hrc.capMax;have hbrW:Below wr.heap.size wr W:=hbrW;have hyW:=hown.below hbrW;have hbW:Below (w.heap.size+2) wr W:=hbrW.mono (by omega);have hblW:Below w.heap.size w W:=Zb hbl hbrW;have hJW:=hJ.below hbrW hJ.lt;have hRW:=hR.below hbrW hR.lt;have hKW:=hK0.below hbrW hK0.lt
          have hclW:∀ g,Qab A2=some g→w.heap.size+3≤g∧g<W.heap.size∧Qab A3≠some g:=fun g hg=>by
           have h1:=hloW g hg;refine ⟨by omega,h1.2,fun e=>?_⟩;have h2:=(hown.1.lt g e).2;omega
          have hWsz:w.heap.size+3≤W.heap.size:=by have:=hbrW.size;omega
          have HYY:=Zh hyW;have hownY:=hyW.1;clear hyW;refine Zk 10 (fun K hK=>?_);with_reducible refine Qal (some 22) rfl rfl (.tmp 13) (.tmp 21) 27 rfl 67 _ 1 24 Qgo underlying27 rfl (by omega) rfl rfl hownY hrdW (Qce _ _ _) (by omega) (by omega) hWsz ?_
          intro A' c' w' hown' hg hat;have hb5:Below (w.heap.size+2) wr w':=Bel.grownOwn hbW hg (hownY.mono (by omega)) (by omega);have hb6:Below w.heap.size w w':=Bel.grownOwn hblW hg (hownY.mono (by omega)) (by omega);have hJ':=hJW.grown hg (hownY.ne (by omega));have hR':=hRW.grown hg (hownY.ne (by omega));have hK':=hKW.grown hg (hownY.ne (by omega));have HYN:=Zh (HYY.out.push hown' hg hat hcW hclW hcapW hcapM);clear hownY hrdW hbW hblW hJW hRW hKW hg hclW hcW hown' hat HYY hbrW hcapW hcapM;refine hK.out _ _ hb5 (fun _=>?_);clear hK K;simp only [Act.put,List.setIfInBounds_toArray,List.set_cons_zero,List.set_cons_succ];refine tz 11 23 ?_;have k3':=hK'.cell 0;simp only [List.getElem?_toArray,List.getElem?_cons_zero] at k3';have kf':=hK'.frozen 0;refine Zk 12 (fun K hK=>?_);go_simp;refine hK.out _ _ (hb5.setCell (by simp only;omega) _) (fun _=>?_);clear hK K;refine Zd ?_;have HK2:=Zh (hK'.set_ 0 (.slice A' (j+1) c'));have HY2:=Zh (HYN.out.far (Qaa w' (w.heap.size+2) 0 (.slice A' (j+1) c')) (by omega));have HB2:=Zh (show Below w.heap.size w (w'.setCell ⟨w.heap.size+2,0,none⟩ (.slice A' (j+1) c')) from hb6.setCell (by simp only;omega) _)
          have HJ2:=Zh (hJ'.far_ (b:=w.heap.size+2) (o:=0) (by omega) (.slice A' (j+1) c'));have HR2:=Zh (hR'.far_ (b:=w.heap.size+2) (o:=0) (by omega) (.slice A' (j+1) c'));clear hK' k3' kf' hJ' hR'
          go_wp2_with fail
          go_roundw
          case rel=>exact ⟨HB2.out,HJ2.out,HR2.out,j+1,A',c',_,by omega,by go_num,HK2.out,by rw [HN.out];exact HY2.out⟩
          case measure=>simp [intOf];omega
        · go_simp
          refine hK.out _ _ (Below.alloc (hbr4.mono (by omega)) (by have:=hbr4.size;omega) _) (fun _=>?_);clear hK K;have k3a:∀ o,(w4.alloc o).cell? ⟨w.heap.size+2,0,none⟩=some (.slice A3 j c3):=fun o=>((hK0.below hbr4 hK0.lt).alloc o).cell 0
          refine Zk 1 (fun K hK=>?_);go_simp;refine hK.out _ _ (Below.alloc (hbr4.mono (by omega)) (by have:=hbr4.size;omega) _) (fun _=>?_);clear hK K;clear k3a;obtain ⟨W,hW⟩:∃ W,W=w4.alloc (.cells #[.slice A2 m c2] 67):=⟨_,rfl⟩;rw [←hW];have hb4W:Below w4.heap.size w4 W:=by rw [hW];exact Qah
          have hrdW:Rds W 1 (some ⟨w4.heap.size,0,none⟩) 1 [.slice A2 m c2]:=by rw [hW];exact (Blk.new w4 67 #[.slice A2 m c2]).rds rfl
          clear hW;have hbrW:Below wr.heap.size wr W:=Zb hbr4 hb4W;have hcW:=hrc.rds.rdI.below hb4W;have hloW:∀ g,Qab A2=some g→wr.heap.size≤g∧g<W.heap.size:=fun g hg=>⟨(hrc.lt g hg).1,Nat.lt_of_lt_of_le (hrc.lt g hg).2 hb4W.size⟩
          have hcapW:=hrc.cap;have hcapM:=hrc.capMax;have hbrW:Below wr.heap.size wr W:=hbrW;have hyW:=hown.below hbrW;have hbW:Below (w.heap.size+2) wr W:=hbrW.mono (by omega);have hblW:Below w.heap.size w W:=Zb hbl hbrW;have hJW:=hJ.below hbrW hJ.lt;have hRW:=hR.below hbrW hR.lt;have hKW:=hK0.below hbrW hK0.lt
          have hclW:∀ g,Qab A2=some g→w.heap.size+3≤g∧g<W.heap.size∧Qab A3≠some g:=fun g hg=>by
           have h1:=hloW g hg;refine ⟨by omega,h1.2,fun e=>?_⟩;have h2:=(hown.1.lt g e).2;omega
          have hWsz:w.heap.size+3≤W.heap.size:=by have:=hbrW.size;omega
          have HYY:=Zh hyW;have hownY:=hyW.1;clear hyW;refine Zk 10 (fun K hK=>?_);with_reducible refine Qal (some 22) rfl rfl (.tmp 13) (.tmp 21) 27 rfl 67 _ 1 24 Qgo underlying27 rfl (by omega) rfl rfl hownY hrdW (Qce _ _ _) (by omega) (by omega) hWsz ?_
          intro A' c' w' hown' hg hat;have hb5:Below (w.heap.size+2) wr w':=Bel.grownOwn hbW hg (hownY.mono (by omega)) (by omega);have hb6:Below w.heap.size w w':=Bel.grownOwn hblW hg (hownY.mono (by omega)) (by omega);have hJ':=hJW.grown hg (hownY.ne (by omega));have hR':=hRW.grown hg (hownY.ne (by omega));have hK':=hKW.grown hg (hownY.ne (by omega));have HYN:=Zh (HYY.out.push hown' hg hat hcW hclW hcapW hcapM);clear hownY hrdW hbW hblW hJW hRW hKW hg hclW hcW hown' hat HYY hbrW hcapW hcapM;refine hK.out _ _ hb5 (fun _=>?_);clear hK K;simp only [Act.put,List.setIfInBounds_toArray,List.set_cons_zero,List.set_cons_succ];refine tz 11 23 ?_;have k3':=hK'.cell 0;simp only [List.getElem?_toArray,List.getElem?_cons_zero] at k3';have kf':=hK'.frozen 0;refine Zk 12 (fun K hK=>?_);go_simp;refine hK.out _ _ (hb5.setCell (by simp only;omega) _) (fun _=>?_);clear hK K;refine Zd ?_;have HK2:=Zh (hK'.set_ 0 (.slice A' (j+1) c'));have HY2:=Zh (HYN.out.far (Qaa w' (w.heap.size+2) 0 (.slice A' (j+1) c')) (by omega));have HB2:=Zh (show Below w.heap.size w (w'.setCell ⟨w.heap.size+2,0,none⟩ (.slice A' (j+1) c')) from hb6.setCell (by simp only;omega) _)
          have HJ2:=Zh (hJ'.far_ (b:=w.heap.size+2) (o:=0) (by omega) (.slice A' (j+1) c'));have HR2:=Zh (hR'.far_ (b:=w.heap.size+2) (o:=0) (by omega) (.slice A' (j+1) c'));clear hK' k3' kf' hJ' hR'
          go_wp2_with fail
          go_roundw
          case rel=>exact ⟨HB2.out,HJ2.out,HR2.out,j+1,A',c',_,by omega,by go_num,HK2.out,by rw [HN.out];exact HY2.out⟩
          case measure=>simp [intOf];omega
  · obtain rfl:L=j:=by omega
    rw [List.take_of_length_le (by rw [HT.out.1];exact Zn _)] at hown;have q0:=hK0.cell 0;have r0:=hR.cell 0;simp only [List.getElem?_toArray,List.getElem?_cons_zero] at q0 r0;have f0:=hR.frozen 0;have hown2:=hown.far (Qaa wr (w.heap.size+1) 0 (.slice A3 L c3)) (by omega);have HM:=Zh (hown2.rdM (G:=fun b=>w.heap.size≤b∧b<(wr.setCell ⟨w.heap.size+1,0,none⟩ (.slice A3 L c3)).heap.size) (fun b h1 h2=>⟨by omega,h2⟩));have HCP:=Zh (And.intro hown.1.cap hown.1.capMax);clear hown hown2 hR
    go_wp2_with fail
    refine bodyPost_ret (v:=.agg #[.slice A3 L c3]) (by simp [results,results117,go_sem,r0]) rfl ?_;exact ⟨A3,c3,rfl,HM.out,HCP.out.1,HCP.out.2,Qah⟩
set_option maxHeartbeats 1000000 in
theorem Qvj (A B C Q:Option Addr)(n m k c d e L cq:Nat)(N:Qap) (ls:List (List Int)) (w:World) (h:Qcj w A B C n m k N) (hN:Qaz N) (hq:RdT w Q L ls) (hP:Qbn N.vs.length ls) :
 Calls prog 60 #[.agg #[.slice A n c,.slice B m d,.slice C k e],.agg #[.slice Q L cq]] w fun r w'=>∃ o,r=.returned (.pointer (some ⟨o,0,none⟩))∧Qgy (msk w' (fun b=>w.heap.size≤b∧b<w'.heap.size)) o N.ar ls∧Below w.heap.size w w':=by
 have HH:=Zh h;have HN:=Zh hN;have HT:=Zh hq;have HP:=Zh hP;have hn4:=hN.lv;have l6:L≤6:=by rw [←hq.1];exact hP.l6
 have HVL:=Zh hn4;clear h hN hq hP hn4
 go_enter func60,ntmps60
 go_wp2_with fail
 (refine Qac ?_;intro w1 hw1)
 have hb1:Below w.heap.size w w1:=by rw [hw1];exact Qah
 have hQ:Blk w1 (w.heap.size+1) 29 #[.slice Q L cq]:=by rw [hw1];exact Qbg
 clear hw1;with_reducible refine (Qsp A B C n m k c d e N w1 (HH.out.below hb1) HN.out).mono ?_
 rintro r w2 ⟨g,rfl,hG,hb2⟩;have hbw2:=Zb hb1 hb2;have HG:=Zh hG.rd;have y0:=(hQ.below hb2 hQ.lt).cell 0;simp only [List.getElem?_toArray,List.getElem?_cons_zero] at y0;clear hG hb2 hQ
 go_wp2_with fail
 with_reducible refine (Qtd Q L cq ls w2 (HT.out.below hbw2) (by omega) (fun l hl=>by have:=(HP.out.lvl l hl).len;have:=HVL.out;omega)).mono ?_
 rintro r w3 ⟨Q3,cq3,rfl,hq3,_,_,hb3⟩;have hbw3:=Zb hbw2 hb3;have HQ3:=Zh (hq3.le (Qba _ _));have HG3:=Zh (HG.out.below hb3);clear hq3 hb3 y0
 go_wp2_with fail
 with_reducible refine (Qup g N Q3 L cq3 _ ls w3 HG3.out HN.out HQ3.out HP.out rfl).mono ?_
 rintro r w4 ⟨o,rfl,hO,hb4⟩;have hz3:=hbw3.size;have HO:=Zh (hO.le (Qbe (G':=fun b=>w.heap.size≤b∧b<w4.heap.size) (fun b hb=>⟨by omega,hb.2⟩)));have hbw4:=Zb hbw3 hb4;clear hO hb4
 go_wp2_with fail
 go_ret
 exact ⟨o,rfl,HO.out,hbw4⟩
def Qpb (w:World)(N:Qap) (ls:List (List Int)) (r:Ending) (w':World):Prop :=
 (∃ (g o:Nat) (CB NC:Nat) (cl:List Int) (F:Nat→Prop),r=.returned (.tuple #[.pointer (some ⟨g,0,none⟩),.pointer (some ⟨o,0,none⟩),.slice (some ⟨CB,0,none⟩) NC NC,.bool true])∧NC=Qcd (Qaf N.ar ls)∧GrO w' F g N∧(∀ b,F b→w.heap.size≤b∧b<w'.heap.size)∧Qgy (msk w' (fun b=>¬F b)) o N.ar ls∧RdI (msk w' (fun b=>¬F b)) (some ⟨CB,0,none⟩) NC cl∧Qee N ls cl)∧Below w.heap.size w w'
set_option maxHeartbeats 1000000 in
theorem Qnj (A B C Q:Option Addr)(n m k c d e L cq:Nat)(N:Qap) (ls:List (List Int)) (w:World) (h:Qcj w A B C n m k N) (hok:Qaz N) (hq:RdT w Q L ls) (hP:Qbn N.vs.length ls) (hNC:Qcd (Qaf N.ar ls)≤1000000000) :
 Calls prog 17 #[.agg #[.slice A n c,.slice B m d,.slice C k e],.agg #[.slice Q L cq]] w (Qpb w N ls):=by
 unfold Qpb;have HM8:=Zh (fun V (hV:Below w.heap.size w V)=>Qsp A B C n m k c d e N V (h.below hV) hok);have HM17:=Zh (fun V (hV:Below w.heap.size w V)=>Qvj A B C Q n m k c d e L cq N ls V (h.below hV) hok (hq.below hV) hP);have HAL:=Zh (fun V g o (hg:Qfv V g N) (ho:Qgy V o N.ar ls)=>all_ok V g o N ls hg hok ho hP hNC);have HIA:=Zh (fun (cl:List Int) (h1:Qfk N ls ls.length 0 cl) (h2:cl.length=Qcd (Qaf N.ar ls))=>h1.all h2);obtain ⟨NC,hNCe⟩:∃ NC,NC=Qcd (Qaf N.ar ls):=⟨_,rfl⟩;have HNC:=Zh hNCe;clear h hok hq hP hNC hNCe
 go_enter func17,ntmps17
 go_wp2_with fail
 (refine Qak ?_;intro w1 hw1)
 have HB1:=Zh (show Below w.heap.size w w1 by rw [hw1];exact Qah)
 have HX:=Zh (show Blk w1 w.heap.size 26 #[.slice A n c,.slice B m d,.slice C k e] by rw [hw1];exact Qbg)
 have HY:=Zh (show Blk w1 (w.heap.size+1) 29 #[.slice Q L cq] by rw [hw1];exact Qbg)
 clear hw1
 have HSX:=Zh (show ∀ V,Below w1.heap.size w1 V→V.cell? ⟨w.heap.size,0,none⟩=some (.slice A n c)∧V.cell? ⟨w.heap.size,1,none⟩=some (.slice B m d)∧V.cell? ⟨w.heap.size,2,none⟩=some (.slice C k e)∧V.cell? ⟨w.heap.size+1,0,none⟩=some (.slice Q L cq) from
  fun V hV=>⟨by rw [(HX.out.below hV HX.out.lt).cell];rfl,by rw [(HX.out.below hV HX.out.lt).cell];rfl,by rw [(HX.out.below hV HX.out.lt).cell];rfl,by rw [(HY.out.below hV HY.out.lt).cell];rfl⟩)
 go_wp2_with fail
 refine wp_region_held_drew (S:=fun V=>Below w1.heap.size w1 V) (by kernel_rfl) (Zr _ _).drew (fun _=>?_);refine tz 0 10 ?_;refine tz 2 12 ?_;refine tz 3 13 ?_;refine Zk 1 (fun K hK=>?_);go_simp;with_reducible refine (HM8.out _ (Zb HB1.out (Zr _ _).drew)).mono ?_
 rintro r w2 ⟨g,rfl,hG,hb2⟩;have hz1:w1.heap.size≤w2.heap.size:=hb2.size;have hb2':Below w1.heap.size w1 w2:=(Zr _ _).drew.trans hb2;have HG2:=Zh hG;go_simp;refine hK.out _ _ hb2' (fun _=>?_);clear hK K hb2 hG;refine Zk 4 (fun K hK=>?_);go_simp;with_reducible refine (HM17.out w2 (Zb HB1.out hb2')).mono ?_
 rintro r w3 ⟨o,rfl,hO,hb3⟩;have hb3':=Zb hb2' hb3;have HG3:=Zh (HG2.out.below hb3);have HO3:=Zh hO;have HZ3:=Zh hb3.size;have HB3:=Zh (Zb HB1.out hb3');go_simp;refine hK.out _ _ hb3' (fun _=>?_);clear hK K hb2' hb3 hb3' hO HG2;refine tz 5 8 ?_;refine tz 6 9 ?_;refine Zd ?_;have HALL:=Zh (HAL.out w3 g o HG3.out.rd (HO3.out.le (Qba _ _)));clear HSX HM8 HM17 HAL
 go_wp2_with fail
 with_reducible refine HALL.out.mono ?_
 rintro r w4 ⟨CB,cl,rfl,hCB,hCl,hlen,_,hdone,hb4⟩;have HB4:=Zh (Zb HB3.out hb4)
 have HR:=Zh (show GrO w4 (fun b=>w1.heap.size≤b∧b<w2.heap.size) g N∧(∀ b,(fun b=>w1.heap.size≤b∧b<w2.heap.size) b→w.heap.size≤b∧b<w4.heap.size)∧Qgy (msk w4 (fun b=>¬(fun b=>w1.heap.size≤b∧b<w2.heap.size) b)) o N.ar ls∧RdI (msk w4 (fun b=>¬(fun b=>w1.heap.size≤b∧b<w2.heap.size) b)) (some ⟨CB,0,none⟩) (Qcd (Qaf N.ar ls)) cl∧Qee N ls cl from by
  refine ⟨HG3.out.below hb4,fun b hb=>⟨Nat.le_trans HB1.out.size hb.1,by have:=hb4.size;have:=HZ3.out;omega⟩,?_,?_,HIA.out cl hdone hlen⟩
  · refine HO3.out.le (fun a v hc=>?_)
    obtain ⟨h1,h2⟩:=Qbd.1 hc;exact Qbd.2 ⟨fun h3=>by have:=h1.1;have:=h3.2;omega,Zc hb4 (Zn _) h2⟩
  · refine ⟨hlen,fun i x hx=>⟨CB,0,rfl,?_⟩⟩
    refine Qbd.2 ⟨fun h3=>by have h4:CB<w2.heap.size:=h3.2;have:=HZ3.out;omega,?_⟩;rw [hCl.cell,Nat.zero_add,List.getElem?_toArray];exact Qij hx)
 rw [←HNC.out] at HR ⊢;clear hCB hCl hlen hdone hb4 HALL
 go_wp2_with fail
 refine bodyPost_ret (v:=.tuple #[.pointer (some ⟨g,0,none⟩),.pointer (some ⟨o,0,none⟩),.slice (some ⟨CB,0,none⟩) NC NC,.bool true]) (by simp [results,results17,go_sem]) rfl ?_;exact ⟨⟨g,o,CB,NC,cl,_,rfl,HNC.out,HR.out⟩,HB4.out⟩
end Go.Proofs.YteaoiabikjnkeaaGreatDoor
