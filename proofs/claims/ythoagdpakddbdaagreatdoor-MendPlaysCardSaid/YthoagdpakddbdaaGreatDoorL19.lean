/- Parts of the proof: Po, Md, Ri, ScS, Sc, MdO, LsP, RfT, Fx, MdC. -/
import Derived.Test.YthoagdpakddbdaaGreatDoorL18
namespace Go.Proofs.YthoagdpakddbdaaGreatDoor
open Go.RowKit Go.Proofs.Tryz
attribute [local go_sem ↓] Go.wp_at_zero Go.wp_at_succ
set_option maxHeartbeats 4000000 in
set_option maxRecDepth 20000 in
theorem Quh (Q:Option Addr)(L cq:Nat) (ls:List (List Int)) (w:World) (h:RdT w Q L ls) (hL:L≤1000000) (hc:∀ l∈ls,l.length≤1000000) :
 Calls prog 36 #[.agg #[.slice Q L cq]] w fun r w'=>∃ Q' cq',r=.returned (.agg #[.slice Q' L cq'])∧RdT (msk w' (fun b=>w.heap.size≤b∧b<w'.heap.size)) Q' L ls∧L≤cq'∧cq'≤9223372036854775807∧Below w.heap.size w w':=by
 have HT:=Zh h;have HC:=Zh hc;clear h hc
 go_enter func36,ntmps36
 go_wp2_with fail
 (refine Qag ?_;intro w1 hw1)
 have hb1:Below w.heap.size w w1:=by rw [hw1];exact Qaf
 have hJ:Blk w1 w.heap.size 29 #[.slice Q L cq]:=by rw [hw1];exact Qaz
 have hR:Blk w1 (w.heap.size+1) 89 #[.slice none 0 0]:=by rw [hw1];exact Qaz
 have hK0:Blk w1 (w.heap.size+2) 89 #[.slice none 0 0]:=by rw [hw1];exact Qaz
 clear hw1
 go_loopw [4] (fun i W=>Below w.heap.size w W∧Blk W w.heap.size 29 #[.slice Q L cq]∧Blk W (w.heap.size+1) 89 #[.slice none 0 0]∧∃ (j:Nat) (A3:Option Addr) (c3:Nat) (xs:List Value),j≤L∧i=.int .i64 j∧Blk W (w.heap.size+2) 89 #[.slice A3 j c3]∧RwL W (w.heap.size+3) A3 j c3 xs (ls.take j)) (fun i _=>L-(intOf i).toNat)
 case atStart=>exact ⟨hb1,hJ,hR,0,none,0,[],Nat.zero_le _,rfl,hK0,by simpa using RwL.nil _ _⟩
 case round =>
  clear hb1 hJ hR hK0;obtain ⟨hbl,hJ,hR,j,A3,c3,xs,hj,rfl,hK0,hown⟩:=hrel;have j0:=hJ.cell 0;simp only [Yo,Yn] at j0
  by_cases hlt:j<L
  · obtain ⟨sb,so,Ar,m,cr,l,rfl,hl,hcl,hr,hq1,hq2⟩:=HT.out.at_ hlt
    have HN:=Zh (show ls.take (j+1)=ls.take j ++[l] by
     rw [Yf (Zs hl).1,(Zs hl).2])
    have hm:m≤1000000:=by have:=HC.out l (Zm hl);rw [hr.1] at this;exact this
    have dcl:=Zc hbl (Zn _) hcl;have HSB:=Zh (Qae hcl);have HRR:=Zh (hr.below hbl);have i3:(0:Int)≤(j:Int):=by omega
    have i4:(j:Int)<(L:Int):=by omega
    have hsz:w.heap.size+3≤wr.heap.size:=by have:=hK0.lt;omega
    clear hr hl hcl hq1 hq2
    have HSX:=Zh (show ∀ V,Below (w.heap.size+2) wr V→V.cell? ⟨w.heap.size,0,none⟩=some (.slice (some ⟨sb,so,none⟩) L cq)∧V.cell? ⟨sb,so+j,none⟩=some (.slice Ar m cr) from
     fun V hb=>⟨(hb.cell (by simp only;omega)).trans j0,(hb.cell (by have:=Qae dcl;have:=HSB.out;simp only at this ⊢;omega)).trans dcl⟩)
    go_wp2_with fail
    refine wp_region_held_drew (S:=fun V=>Below (w.heap.size+2) wr V) (by kernel_rfl) (Zr _ _).drew (fun _=>?_);refine tz 0 12 ?_;refine tz 3 15 ?_;refine tz 4 16 ?_;refine tz 5 17 ?_;refine tz 6 18 ?_;refine tz 7 19 ?_;refine wpAnyH_ready (rs:=[1,2]) (by kernel_rfl) (by simp) ?_;refine AllReadyH.cons (o:=_) rfl (fun K hK=>?_) (AllReadyH.cons (o:=_) rfl (fun K hK=>?_) AllReadyH.nil)
    · have k3a:=hK0.cell 0
      simp only [Yo,Yn] at k3a;go_simp;refine hK.out _ _ (Zr _ _).drew (fun _=>?_);clear hK K k3a;refine Zk 2 (fun K hK=>?_);go_simp;refine hK.out _ _ (((Zr _ _).alloc (by omega) _).drew) (fun _=>?_);clear hK K;obtain ⟨W3,hW3⟩:∃ W3,W3=(wr.alloc (.cells #[] 3)).drew:=⟨_,rfl⟩;rw [←hW3];have hbr3:Below wr.heap.size wr W3:=by rw [hW3];exact Qaf
      have hown0:Own W3 wr.heap.size 3 1 (some ⟨wr.heap.size,0,none⟩) 0 0 []:=by rw [hW3];exact lit0 (Zn _)
      have hrd0:=(HRR.out.below hbr3).rdsI;have hz3:=hbr3.size;clear hW3;refine Zk 8 (fun K hK=>?_);with_reducible refine Qar (some 20) rfl rfl (.tmp 14) (.tmp 19) 93 rfl 3 _ 1 8 Qbk underlying93 rfl (by omega) rfl rfl hown0 hrd0 (Qam _) (by omega) (by omega) (by omega) ?_
      intro A2 c2 w4 hrc hg4 _;have hbr4:Below wr.heap.size wr w4:=Zo hbr3 hg4 hown0 (by omega);simp only [Yz,List.nil_append] at hrc;clear hg4 hown0 hrd0;refine hK.out _ _ (hbr4.mono (by omega)) (fun _=>?_);clear hK K;simp only [Act.put,Yi,Yj,Yk,Yz];refine Zk 9 (fun K hK=>?_);go_simp;refine hK.out _ _ (Below.alloc (hbr4.mono (by omega)) (by have:=hbr4.size;omega) _) (fun _=>?_);clear hK K;obtain ⟨W,hW⟩:∃ W,W=w4.alloc (.cells #[.slice A2 m c2] 93):=⟨_,rfl⟩;rw [←hW];have hb4W:Below w4.heap.size w4 W:=by rw [hW];exact Qaf
      have hrdW:Rds W 1 (some ⟨w4.heap.size,0,none⟩) 1 [.slice A2 m c2]:=by rw [hW];exact (Blk.new w4 93 #[.slice A2 m c2]).rds rfl
      clear hW;have hbrW:Below wr.heap.size wr W:=Zb hbr4 hb4W;have hcW:=hrc.rds.rdI.below hb4W;have hloW:∀ g,Qaa A2=some g→wr.heap.size≤g∧g<W.heap.size:=fun g hg=>⟨(hrc.lt g hg).1,Yu (hrc.lt g hg).2 hb4W.size⟩
      have hcapW:=hrc.cap;have hcapM:=hrc.capMax;have hbrW:Below wr.heap.size wr W:=hbrW;have hyW:=hown.below hbrW;have hbW:Below (w.heap.size+2) wr W:=hbrW.mono (by omega);have hblW:Below w.heap.size w W:=Zb hbl hbrW;have hJW:=hJ.below hbrW hJ.lt;have hRW:=hR.below hbrW hR.lt;have hKW:=hK0.below hbrW hK0.lt
      have hclW:∀ g,Qaa A2=some g→w.heap.size+3≤g∧g<W.heap.size∧Qaa A3≠some g:=fun g hg=>by
       have h1:=hloW g hg;refine ⟨by omega,h1.2,fun e=>?_⟩;have h2:=(hown.1.lt g e).2;omega
      have hWsz:w.heap.size+3≤W.heap.size:=by have:=hbrW.size;omega
      have HYY:=Zh hyW;have hownY:=hyW.1;clear hyW;refine Zk 10 (fun K hK=>?_);with_reducible refine Qar (some 22) rfl rfl (.tmp 13) (.tmp 21) 27 rfl 93 _ 1 24 Qgv underlying27 rfl (by omega) rfl rfl hownY hrdW (Qbz _ _ _) (by omega) (by omega) hWsz ?_
      intro A' c' w' hown' hg hat;have hb5:Below (w.heap.size+2) wr w':=Zo hbW hg (hownY.mono (by omega)) (by omega);have hb6:Below w.heap.size w w':=Zo hblW hg (hownY.mono (by omega)) (by omega);have hJ':=hJW.grown hg (hownY.ne (by omega));have hR':=hRW.grown hg (hownY.ne (by omega));have hK':=hKW.grown hg (hownY.ne (by omega));have HYN:=Zh (HYY.out.push hown' hg hat hcW hclW hcapW hcapM);clear hownY hrdW hbW hblW hJW hRW hKW hg hclW hcW hown' hat HYY hbrW hcapW hcapM;refine hK.out _ _ hb5 (fun _=>?_);clear hK K;simp only [Act.put,Yi,Yj,Yk];refine tz 11 23 ?_;have k3':=hK'.cell 0;simp only [Yo,Yn] at k3';have kf':=hK'.frozen 0;refine Zk 12 (fun K hK=>?_);go_simp;refine hK.out _ _ (hb5.setCell (by simp only;omega) _) (fun _=>?_);clear hK K;refine Zd ?_;have HK2:=Zh (hK'.set_ 0 (.slice A' (j+1) c'));have HY2:=Zh (HYN.out.far (Qab w' (w.heap.size+2) 0 (.slice A' (j+1) c')) (by omega));have HB2:=Zh (show Below w.heap.size w (w'.setCell ⟨w.heap.size+2,0,none⟩ (.slice A' (j+1) c')) from hb6.setCell (by simp only;omega) _)
      have HJ2:=Zh (hJ'.far_ (b:=w.heap.size+2) (o:=0) (by omega) (.slice A' (j+1) c'));have HR2:=Zh (hR'.far_ (b:=w.heap.size+2) (o:=0) (by omega) (.slice A' (j+1) c'));clear hK' k3' kf' hJ' hR'
      go_wp2_with fail
      go_roundw
      case rel=>exact ⟨HB2.out,HJ2.out,HR2.out,j+1,A',c',_,by omega,by go_num,HK2.out,by rw [HN.out];exact HY2.out⟩
      case measure=>simp [intOf];omega
    · go_simp
      refine hK.out _ _ (((Zr _ _).alloc (by omega) _).drew) (fun _=>?_);clear hK K;obtain ⟨W3,hW3⟩:∃ W3,W3=(wr.alloc (.cells #[] 3)).drew:=⟨_,rfl⟩;rw [←hW3];have hbr3:Below wr.heap.size wr W3:=by rw [hW3];exact Qaf
      have hown0:Own W3 wr.heap.size 3 1 (some ⟨wr.heap.size,0,none⟩) 0 0 []:=by rw [hW3];exact lit0 (Zn _)
      have hrd0:=(HRR.out.below hbr3).rdsI;have hz3:=hbr3.size;clear hW3;refine wpAnyH_ready (rs:=[1,8]) (by kernel_rfl) (by simp) ?_;refine AllReadyH.cons (o:=_) rfl (fun K hK=>?_) (AllReadyH.cons (o:=_) rfl (fun K hK=>?_) AllReadyH.nil)
      · have k3a:W3.cell? ⟨w.heap.size+2,0,none⟩=some (.slice A3 j c3):=(hK0.below hbr3 hK0.lt).cell 0
        go_simp;refine hK.out _ _ (hbr3.mono (by omega)) (fun _=>?_);clear hK K k3a;refine Zk 8 (fun K hK=>?_);with_reducible refine Qar (some 20) rfl rfl (.tmp 14) (.tmp 19) 93 rfl 3 _ 1 8 Qbk underlying93 rfl (by omega) rfl rfl hown0 hrd0 (Qam _) (by omega) (by omega) (by omega) ?_
        intro A2 c2 w4 hrc hg4 _;have hbr4:Below wr.heap.size wr w4:=Zo hbr3 hg4 hown0 (by omega);simp only [Yz,List.nil_append] at hrc;clear hg4 hown0 hrd0;refine hK.out _ _ (hbr4.mono (by omega)) (fun _=>?_);clear hK K;simp only [Act.put,Yi,Yj,Yk,Yz];refine Zk 9 (fun K hK=>?_);go_simp;refine hK.out _ _ (Below.alloc (hbr4.mono (by omega)) (by have:=hbr4.size;omega) _) (fun _=>?_);clear hK K;obtain ⟨W,hW⟩:∃ W,W=w4.alloc (.cells #[.slice A2 m c2] 93):=⟨_,rfl⟩;rw [←hW];have hb4W:Below w4.heap.size w4 W:=by rw [hW];exact Qaf
        have hrdW:Rds W 1 (some ⟨w4.heap.size,0,none⟩) 1 [.slice A2 m c2]:=by rw [hW];exact (Blk.new w4 93 #[.slice A2 m c2]).rds rfl
        clear hW;have hbrW:Below wr.heap.size wr W:=Zb hbr4 hb4W;have hcW:=hrc.rds.rdI.below hb4W;have hloW:∀ g,Qaa A2=some g→wr.heap.size≤g∧g<W.heap.size:=fun g hg=>⟨(hrc.lt g hg).1,Yu (hrc.lt g hg).2 hb4W.size⟩
        have hcapW:=hrc.cap;have hcapM:=hrc.capMax;have hbrW:Below wr.heap.size wr W:=hbrW;have hyW:=hown.below hbrW;have hbW:Below (w.heap.size+2) wr W:=hbrW.mono (by omega);have hblW:Below w.heap.size w W:=Zb hbl hbrW;have hJW:=hJ.below hbrW hJ.lt;have hRW:=hR.below hbrW hR.lt;have hKW:=hK0.below hbrW hK0.lt
        have hclW:∀ g,Qaa A2=some g→w.heap.size+3≤g∧g<W.heap.size∧Qaa A3≠some g:=fun g hg=>by
         have h1:=hloW g hg;refine ⟨by omega,h1.2,fun e=>?_⟩;have h2:=(hown.1.lt g e).2;omega
        have hWsz:w.heap.size+3≤W.heap.size:=by have:=hbrW.size;omega
        have HYY:=Zh hyW;have hownY:=hyW.1;clear hyW;refine Zk 10 (fun K hK=>?_);with_reducible refine Qar (some 22) rfl rfl (.tmp 13) (.tmp 21) 27 rfl 93 _ 1 24 Qgv underlying27 rfl (by omega) rfl rfl hownY hrdW (Qbz _ _ _) (by omega) (by omega) hWsz ?_
        intro A' c' w' hown' hg hat;have hb5:Below (w.heap.size+2) wr w':=Zo hbW hg (hownY.mono (by omega)) (by omega);have hb6:Below w.heap.size w w':=Zo hblW hg (hownY.mono (by omega)) (by omega);have hJ':=hJW.grown hg (hownY.ne (by omega));have hR':=hRW.grown hg (hownY.ne (by omega));have hK':=hKW.grown hg (hownY.ne (by omega));have HYN:=Zh (HYY.out.push hown' hg hat hcW hclW hcapW hcapM);clear hownY hrdW hbW hblW hJW hRW hKW hg hclW hcW hown' hat HYY hbrW hcapW hcapM;refine hK.out _ _ hb5 (fun _=>?_);clear hK K;simp only [Act.put,Yi,Yj,Yk];refine tz 11 23 ?_;have k3':=hK'.cell 0;simp only [Yo,Yn] at k3';have kf':=hK'.frozen 0;refine Zk 12 (fun K hK=>?_);go_simp;refine hK.out _ _ (hb5.setCell (by simp only;omega) _) (fun _=>?_);clear hK K;refine Zd ?_;have HK2:=Zh (hK'.set_ 0 (.slice A' (j+1) c'));have HY2:=Zh (HYN.out.far (Qab w' (w.heap.size+2) 0 (.slice A' (j+1) c')) (by omega));have HB2:=Zh (show Below w.heap.size w (w'.setCell ⟨w.heap.size+2,0,none⟩ (.slice A' (j+1) c')) from hb6.setCell (by simp only;omega) _)
        have HJ2:=Zh (hJ'.far_ (b:=w.heap.size+2) (o:=0) (by omega) (.slice A' (j+1) c'));have HR2:=Zh (hR'.far_ (b:=w.heap.size+2) (o:=0) (by omega) (.slice A' (j+1) c'));clear hK' k3' kf' hJ' hR'
        go_wp2_with fail
        go_roundw
        case rel=>exact ⟨HB2.out,HJ2.out,HR2.out,j+1,A',c',_,by omega,by go_num,HK2.out,by rw [HN.out];exact HY2.out⟩
        case measure=>simp [intOf];omega
      · with_reducible refine Qar (some 20) rfl rfl (.tmp 14) (.tmp 19) 93 rfl 3 _ 1 8 Qbk underlying93 rfl (by omega) rfl rfl hown0 hrd0 (Qam _) (by omega) (by omega) (by omega) ?_
        intro A2 c2 w4 hrc hg4 _;have hbr4:Below wr.heap.size wr w4:=Zo hbr3 hg4 hown0 (by omega);simp only [Yz,List.nil_append] at hrc;clear hg4 hown0 hrd0;refine hK.out _ _ (hbr4.mono (by omega)) (fun _=>?_);clear hK K;simp only [Act.put,Yi,Yj,Yk,Yz];refine wpAnyH_ready (rs:=[1,9]) (by kernel_rfl) (by simp) ?_;refine AllReadyH.cons (o:=_) rfl (fun K hK=>?_) (AllReadyH.cons (o:=_) rfl (fun K hK=>?_) AllReadyH.nil)
        · have k3a:w4.cell? ⟨w.heap.size+2,0,none⟩=some (.slice A3 j c3):=(hK0.below hbr4 hK0.lt).cell 0
          go_simp;refine hK.out _ _ (hbr4.mono (by omega)) (fun _=>?_);clear hK K k3a;refine Zk 9 (fun K hK=>?_);go_simp;refine hK.out _ _ (Below.alloc (hbr4.mono (by omega)) (by have:=hbr4.size;omega) _) (fun _=>?_);clear hK K;obtain ⟨W,hW⟩:∃ W,W=w4.alloc (.cells #[.slice A2 m c2] 93):=⟨_,rfl⟩;rw [←hW];have hb4W:Below w4.heap.size w4 W:=by rw [hW];exact Qaf
          have hrdW:Rds W 1 (some ⟨w4.heap.size,0,none⟩) 1 [.slice A2 m c2]:=by rw [hW];exact (Blk.new w4 93 #[.slice A2 m c2]).rds rfl
          clear hW;have hbrW:Below wr.heap.size wr W:=Zb hbr4 hb4W;have hcW:=hrc.rds.rdI.below hb4W;have hloW:∀ g,Qaa A2=some g→wr.heap.size≤g∧g<W.heap.size:=fun g hg=>⟨(hrc.lt g hg).1,Yu (hrc.lt g hg).2 hb4W.size⟩
          have hcapW:=hrc.cap;have hcapM:=hrc.capMax;have hbrW:Below wr.heap.size wr W:=hbrW;have hyW:=hown.below hbrW;have hbW:Below (w.heap.size+2) wr W:=hbrW.mono (by omega);have hblW:Below w.heap.size w W:=Zb hbl hbrW;have hJW:=hJ.below hbrW hJ.lt;have hRW:=hR.below hbrW hR.lt;have hKW:=hK0.below hbrW hK0.lt
          have hclW:∀ g,Qaa A2=some g→w.heap.size+3≤g∧g<W.heap.size∧Qaa A3≠some g:=fun g hg=>by
           have h1:=hloW g hg;refine ⟨by omega,h1.2,fun e=>?_⟩;have h2:=(hown.1.lt g e).2;omega
          have hWsz:w.heap.size+3≤W.heap.size:=by have:=hbrW.size;omega
          have HYY:=Zh hyW;have hownY:=hyW.1;clear hyW;refine Zk 10 (fun K hK=>?_);with_reducible refine Qar (some 22) rfl rfl (.tmp 13) (.tmp 21) 27 rfl 93 _ 1 24 Qgv underlying27 rfl (by omega) rfl rfl hownY hrdW (Qbz _ _ _) (by omega) (by omega) hWsz ?_
          intro A' c' w' hown' hg hat;have hb5:Below (w.heap.size+2) wr w':=Zo hbW hg (hownY.mono (by omega)) (by omega);have hb6:Below w.heap.size w w':=Zo hblW hg (hownY.mono (by omega)) (by omega);have hJ':=hJW.grown hg (hownY.ne (by omega));have hR':=hRW.grown hg (hownY.ne (by omega));have hK':=hKW.grown hg (hownY.ne (by omega));have HYN:=Zh (HYY.out.push hown' hg hat hcW hclW hcapW hcapM);clear hownY hrdW hbW hblW hJW hRW hKW hg hclW hcW hown' hat HYY hbrW hcapW hcapM;refine hK.out _ _ hb5 (fun _=>?_);clear hK K;simp only [Act.put,Yi,Yj,Yk];refine tz 11 23 ?_;have k3':=hK'.cell 0;simp only [Yo,Yn] at k3';have kf':=hK'.frozen 0;refine Zk 12 (fun K hK=>?_);go_simp;refine hK.out _ _ (hb5.setCell (by simp only;omega) _) (fun _=>?_);clear hK K;refine Zd ?_;have HK2:=Zh (hK'.set_ 0 (.slice A' (j+1) c'));have HY2:=Zh (HYN.out.far (Qab w' (w.heap.size+2) 0 (.slice A' (j+1) c')) (by omega));have HB2:=Zh (show Below w.heap.size w (w'.setCell ⟨w.heap.size+2,0,none⟩ (.slice A' (j+1) c')) from hb6.setCell (by simp only;omega) _)
          have HJ2:=Zh (hJ'.far_ (b:=w.heap.size+2) (o:=0) (by omega) (.slice A' (j+1) c'));have HR2:=Zh (hR'.far_ (b:=w.heap.size+2) (o:=0) (by omega) (.slice A' (j+1) c'));clear hK' k3' kf' hJ' hR'
          go_wp2_with fail
          go_roundw
          case rel=>exact ⟨HB2.out,HJ2.out,HR2.out,j+1,A',c',_,by omega,by go_num,HK2.out,by rw [HN.out];exact HY2.out⟩
          case measure=>simp [intOf];omega
        · go_simp
          refine hK.out _ _ (Below.alloc (hbr4.mono (by omega)) (by have:=hbr4.size;omega) _) (fun _=>?_);clear hK K;have k3a:∀ o,(w4.alloc o).cell? ⟨w.heap.size+2,0,none⟩=some (.slice A3 j c3):=fun o=>((hK0.below hbr4 hK0.lt).alloc o).cell 0
          refine Zk 1 (fun K hK=>?_);go_simp;refine hK.out _ _ (Below.alloc (hbr4.mono (by omega)) (by have:=hbr4.size;omega) _) (fun _=>?_);clear hK K;clear k3a;obtain ⟨W,hW⟩:∃ W,W=w4.alloc (.cells #[.slice A2 m c2] 93):=⟨_,rfl⟩;rw [←hW];have hb4W:Below w4.heap.size w4 W:=by rw [hW];exact Qaf
          have hrdW:Rds W 1 (some ⟨w4.heap.size,0,none⟩) 1 [.slice A2 m c2]:=by rw [hW];exact (Blk.new w4 93 #[.slice A2 m c2]).rds rfl
          clear hW;have hbrW:Below wr.heap.size wr W:=Zb hbr4 hb4W;have hcW:=hrc.rds.rdI.below hb4W;have hloW:∀ g,Qaa A2=some g→wr.heap.size≤g∧g<W.heap.size:=fun g hg=>⟨(hrc.lt g hg).1,Yu (hrc.lt g hg).2 hb4W.size⟩
          have hcapW:=hrc.cap;have hcapM:=hrc.capMax;have hbrW:Below wr.heap.size wr W:=hbrW;have hyW:=hown.below hbrW;have hbW:Below (w.heap.size+2) wr W:=hbrW.mono (by omega);have hblW:Below w.heap.size w W:=Zb hbl hbrW;have hJW:=hJ.below hbrW hJ.lt;have hRW:=hR.below hbrW hR.lt;have hKW:=hK0.below hbrW hK0.lt
          have hclW:∀ g,Qaa A2=some g→w.heap.size+3≤g∧g<W.heap.size∧Qaa A3≠some g:=fun g hg=>by
           have h1:=hloW g hg;refine ⟨by omega,h1.2,fun e=>?_⟩;have h2:=(hown.1.lt g e).2;omega
          have hWsz:w.heap.size+3≤W.heap.size:=by have:=hbrW.size;omega
          have HYY:=Zh hyW;have hownY:=hyW.1;clear hyW;refine Zk 10 (fun K hK=>?_);with_reducible refine Qar (some 22) rfl rfl (.tmp 13) (.tmp 21) 27 rfl 93 _ 1 24 Qgv underlying27 rfl (by omega) rfl rfl hownY hrdW (Qbz _ _ _) (by omega) (by omega) hWsz ?_
          intro A' c' w' hown' hg hat;have hb5:Below (w.heap.size+2) wr w':=Zo hbW hg (hownY.mono (by omega)) (by omega);have hb6:Below w.heap.size w w':=Zo hblW hg (hownY.mono (by omega)) (by omega);have hJ':=hJW.grown hg (hownY.ne (by omega));have hR':=hRW.grown hg (hownY.ne (by omega));have hK':=hKW.grown hg (hownY.ne (by omega));have HYN:=Zh (HYY.out.push hown' hg hat hcW hclW hcapW hcapM);clear hownY hrdW hbW hblW hJW hRW hKW hg hclW hcW hown' hat HYY hbrW hcapW hcapM;refine hK.out _ _ hb5 (fun _=>?_);clear hK K;simp only [Act.put,Yi,Yj,Yk];refine tz 11 23 ?_;have k3':=hK'.cell 0;simp only [Yo,Yn] at k3';have kf':=hK'.frozen 0;refine Zk 12 (fun K hK=>?_);go_simp;refine hK.out _ _ (hb5.setCell (by simp only;omega) _) (fun _=>?_);clear hK K;refine Zd ?_;have HK2:=Zh (hK'.set_ 0 (.slice A' (j+1) c'));have HY2:=Zh (HYN.out.far (Qab w' (w.heap.size+2) 0 (.slice A' (j+1) c')) (by omega));have HB2:=Zh (show Below w.heap.size w (w'.setCell ⟨w.heap.size+2,0,none⟩ (.slice A' (j+1) c')) from hb6.setCell (by simp only;omega) _)
          have HJ2:=Zh (hJ'.far_ (b:=w.heap.size+2) (o:=0) (by omega) (.slice A' (j+1) c'));have HR2:=Zh (hR'.far_ (b:=w.heap.size+2) (o:=0) (by omega) (.slice A' (j+1) c'));clear hK' k3' kf' hJ' hR'
          go_wp2_with fail
          go_roundw
          case rel=>exact ⟨HB2.out,HJ2.out,HR2.out,j+1,A',c',_,by omega,by go_num,HK2.out,by rw [HN.out];exact HY2.out⟩
          case measure=>simp [intOf];omega
  · obtain rfl:L=j:=by omega
    rw [Ye (by rw [HT.out.1];exact Zn _)] at hown;have q0:=hK0.cell 0;have r0:=hR.cell 0;simp only [Yo,Yn] at q0 r0;have f0:=hR.frozen 0;have hown2:=hown.far (Qab wr (w.heap.size+1) 0 (.slice A3 L c3)) (by omega);have HM:=Zh (hown2.rdM (G:=fun b=>w.heap.size≤b∧b<(wr.setCell ⟨w.heap.size+1,0,none⟩ (.slice A3 L c3)).heap.size) (fun b h1 h2=>⟨by omega,h2⟩));have HCP:=Zh (And.intro hown.1.cap hown.1.capMax);clear hown hown2 hR
    go_wp2_with fail
    refine bodyPost_ret (v:=.agg #[.slice A3 L c3]) (by simp [results,results36,go_sem,r0]) rfl ?_;exact ⟨A3,c3,rfl,HM.out,HCP.out.1,HCP.out.2,Qaf⟩
set_option maxHeartbeats 1000000 in
theorem Qpz (A B C Q:Option Addr)(n m k c d e L cq:Nat)(N:Qai) (ls:List (List Int)) (w:World) (h:Qbc w A B C n m k N) (hN:Qav N) (hq:RdT w Q L ls) (hP:Qbw N.vs.length ls) :
 Calls prog 10 #[.agg #[.slice A n c,.slice B m d,.slice C k e],.agg #[.slice Q L cq]] w fun r w'=>∃ o,r=.returned (.pointer (some ⟨o,0,none⟩))∧Qfm (msk w' (fun b=>w.heap.size≤b∧b<w'.heap.size)) o N.ar ls∧Below w.heap.size w w':=by
 have HH:=Zh h;have HN:=Zh hN;have HT:=Zh hq;have HP:=Zh hP;have hn4:=hN.lv;have l6:L≤6:=by rw [←hq.1];exact hP.l6
 have HVL:=Zh hn4;clear h hN hq hP hn4
 go_enter func10,ntmps10
 go_wp2_with fail
 (refine Qac ?_;intro w1 hw1)
 have hb1:Below w.heap.size w w1:=by rw [hw1];exact Qaf
 have hQ:Blk w1 (w.heap.size+1) 29 #[.slice Q L cq]:=by rw [hw1];exact Qaz
 clear hw1;with_reducible refine (Qnr A B C n m k c d e N w1 (HH.out.below hb1) HN.out).mono ?_
 rintro r w2 ⟨g,rfl,hG,hb2⟩;have hbw2:=Zb hb1 hb2;have HG:=Zh hG.rd;have y0:=(hQ.below hb2 hQ.lt).cell 0;simp only [Yo,Yn] at y0;clear hG hb2 hQ
 go_wp2_with fail
 with_reducible refine (Quh Q L cq ls w2 (HT.out.below hbw2) (by omega) (fun l hl=>by have:=(HP.out.lvl l hl).len;have:=HVL.out;omega)).mono ?_
 rintro r w3 ⟨Q3,cq3,rfl,hq3,_,_,hb3⟩;have hbw3:=Zb hbw2 hb3;have HQ3:=Zh (hq3.le (Qbh _ _));have HG3:=Zh (HG.out.below hb3);clear hq3 hb3 y0
 go_wp2_with fail
 with_reducible refine (Qtu g N Q3 L cq3 _ ls w3 HG3.out HN.out HQ3.out HP.out rfl).mono ?_
 rintro r w4 ⟨o,rfl,hO,hb4⟩;have hz3:=hbw3.size;have HO:=Zh (hO.le (Qay (G':=fun b=>w.heap.size≤b∧b<w4.heap.size) (fun b hb=>⟨by omega,hb.2⟩)));have hbw4:=Zb hbw3 hb4;clear hO hb4
 go_wp2_with fail
 go_ret
 exact ⟨o,rfl,HO.out,hbw4⟩
theorem two_any (w:World):Calls prog 31 #[] w fun e w'=>∃ A,e=.returned (.agg #[.slice A 2 2])∧RdT w' A 2 Qiz∧Below w.heap.size w w':=by
 go_enter func31,ntmps31
 go_wp2_with fail
 (refine Qdd ?_;intro W hW)
 have c0:W.cell? ⟨w.heap.size,0,none⟩=some (.slice (some ⟨w.heap.size+1+1+1,0,none⟩) 2 2):=by
  rw [hW,Blk.cell (t:=29) (cs:=#[.slice (some ⟨w.heap.size+1+1+1,0,none⟩) 2 2]) Qaz];rfl
 refine bodyPost_ret (v:=.agg #[.slice (some ⟨w.heap.size+1+1+1,0,none⟩) 2 2]) (by simp [results,results31,go_sem,c0]) rfl ?_;rw [hW];exact ⟨_,rfl,two_fact (g1:=w.heap.size+1) (g2:=w.heap.size+1+1) (t:=3) (s:=93) Qaz Qaz Qaz,Qaf⟩
set_option maxHeartbeats 2000000 in
theorem ring_any (w:World):Calls prog 30 #[] w fun e w'=>∃ A B C,e=.returned (.agg #[.slice A 3 3,.slice B 4 4,.slice C 3 3])∧Qbc w' A B C 3 4 3 Qbv∧Below w.heap.size w w':=by
 go_enter func30,ntmps30
 go_wp2_with fail
 (refine Qdd ?_;intro W hW)
 have hB:Blk W w.heap.size 26 #[.slice (some ⟨w.heap.size+1+1+1+1+1+1+1,0,none⟩) 3 3,.slice (some ⟨w.heap.size+1+1+1+1+1+1+1+1,0,none⟩) 4 4,.slice (some ⟨w.heap.size+1+1+1+1+1+1+1+1+1,0,none⟩) 3 3]:=by
  rw [hW];refine Blk.alloc ?_ _;refine Blk.alloc ?_ _;refine Blk.alloc ?_ _;refine Blk.alloc ?_ _;refine Blk.alloc ?_ _;refine Blk.alloc ?_ _;refine Blk.alloc ?_ _;refine Blk.alloc ?_ _;refine Blk.alloc ?_ _;refine Blk.new' _ _ _ ?_
  first | with_unfolding_all rfl | (simp;done)
 have c0:=hB.cell 0;have c1:=hB.cell 1;have c2:=hB.cell 2;simp only [Yo,Yn,List.getElem?_cons_succ] at c0 c1 c2;refine bodyPost_ret (v:=.agg #[.slice (some ⟨w.heap.size+1+1+1+1+1+1+1,0,none⟩) 3 3,.slice (some ⟨w.heap.size+1+1+1+1+1+1+1+1,0,none⟩) 4 4,.slice (some ⟨w.heap.size+1+1+1+1+1+1+1+1+1,0,none⟩) 3 3]) (by simp [results,results30,go_sem,c0,c1,c2]) rfl ?_
 have b1:Blk W (w.heap.size+1) 2 #[.int .i64 2]:=by
  rw [hW];refine Blk.alloc ?_ _;refine Blk.alloc ?_ _;refine Blk.alloc ?_ _;refine Blk.alloc ?_ _;refine Blk.alloc ?_ _;refine Blk.alloc ?_ _;refine Blk.alloc ?_ _;refine Blk.alloc ?_ _;refine Blk.new' _ _ _ ?_
  first | with_unfolding_all rfl | (simp;done)
 have b2:Blk W (w.heap.size+1+1+1) 2 #[.int .i64 0,.int .i64 1152921504606846976]:=by
  rw [hW];refine Blk.alloc ?_ _;refine Blk.alloc ?_ _;refine Blk.alloc ?_ _;refine Blk.alloc ?_ _;refine Blk.alloc ?_ _;refine Blk.alloc ?_ _;refine Blk.new' _ _ _ ?_
  first | with_unfolding_all rfl | (simp;done)
 have b3:Blk W (w.heap.size+1+1+1+1+1) 2 #[.int .i64 1,.int .i64 5]:=by
  rw [hW];refine Blk.alloc ?_ _;refine Blk.alloc ?_ _;refine Blk.alloc ?_ _;refine Blk.alloc ?_ _;refine Blk.new' _ _ _ ?_
  first | with_unfolding_all rfl | (simp;done)
 have b4:Blk W (w.heap.size+1+1+1+1+1+1+1) 138 #[.int .i64 0,.int .i64 0,.int .i64 1,.int .i64 10,.int .i64 0,.int .i64 2,.int .i64 5,.int .i64 8,.int .i64 0]:=by
  rw [hW];refine Blk.alloc ?_ _;refine Blk.alloc ?_ _;refine Blk.new' _ _ _ ?_
  first | with_unfolding_all rfl | (simp;done)
 have b5:Blk W (w.heap.size+1+1+1+1+1+1+1+1) 73 #[.int .i64 0,.int .i64 1,.int .i64 10,.int .i64 1,.int .i64 2,.int .i64 20,.int .i64 2,.int .i64 0,.int .i64 30,.int .i64 1,.int .i64 0,.int .i64 40]:=by
  rw [hW];refine Blk.alloc ?_ _;refine Blk.new' _ _ _ ?_
  first | with_unfolding_all rfl | (simp;done)
 have b6:Blk W (w.heap.size+1+1+1+1+1+1+1+1+1) 75 #[.int .i64 1,.int .i64 1,.slice (some ⟨w.heap.size+1,0,none⟩) 1 1,.int .i64 2,.int .i64 1,.slice (some ⟨w.heap.size+1+1+1,0,none⟩) 2 2,.int .i64 1,.int .i64 2,.slice (some ⟨w.heap.size+1+1+1+1+1,0,none⟩) 2 2]:=by
  rw [hW];refine Blk.new' _ _ _ ?_
  first | with_unfolding_all rfl | (simp;done)
 have hbl:Below w.heap.size w W:=by rw [hW];exact Qaf
 exact ⟨_,_,_,rfl,Qyz b1 b2 b3 b4 b5 b6,hbl⟩
set_option maxHeartbeats 1000000 in
theorem Qdw (A B:Option Addr)(n m c d:Nat)(l l2:List Int)(w:World)(h:RdI w A n l)(h2:RdI w B m l2)(hn:n≤1000000000)(hm:m≤1000000000) :
 Calls prog 22 #[.slice A n c,.slice B m d] w fun e w'=>e=.returned (.bool (decide (l=l2)))∧∃ k,w'=w.drewN k:=by
 have HR:=Zh h;have HR2:=Zh h2;have HL:=Zh h.1;have HL2:=Zh h2.1;clear h h2
 by_cases hnm:n=m
 rotate_left
 · have e1:((n:Int) != (m:Int))=true:=by simp;omega
   have e2:((n:Int) == (m:Int))=false:=by simp;omega
   have HD:=Zh (show decide (l=l2)=false from decide_eq_false (fun e=>hnm (by rw [←HL.out,←HL2.out,e])))
   go_enter func22,ntmps22
   go_wp2_with fail
   go_ret
   exact ⟨Qbe HD.out.symm,0,rfl⟩
 subst hnm
 go_enter func22,ntmps22
 go_wp2_with fail
 go_loopw [5] (fun q W=>(∃ k,W=w.drewN k)∧∃ i:Nat,i≤n∧q=.int .i64 i∧∀ j,j<i→l[j]?=l2[j]?) (fun q _=>n-(intOf q).toNat)
 case atStart=>exact ⟨⟨0,rfl⟩,0,Nat.zero_le _,rfl,fun _ h=>absurd h (Nat.not_lt_zero _)⟩
 case round =>
  obtain ⟨hd,i,hi,rfl,hall⟩:=hrel;have HD:=Zh hd;have HA:=Zh hall;clear hall
  by_cases hlt:i<n
  · obtain ⟨b,o,x,rfl,hx,hc⟩:=HR.out.at_ hlt
    obtain ⟨b',o',y,rfl,hy,hc'⟩:=HR2.out.at_ hlt;have hc1:wr.cell? ⟨b,o+i,none⟩=some (.int .i64 x):=by obtain ⟨k,rfl⟩:=hd;exact hc
    have hc2:wr.cell? ⟨b',o'+i,none⟩=some (.int .i64 y):=by obtain ⟨k,rfl⟩:=hd;exact hc'
    have HX:=Zh hx;have HY:=Zh hy;have i1:(0:Int)≤(i:Int):=by omega
    have i2:(i:Int)<(n:Int):=by omega
    clear hx hy hc hc' hd
    by_cases e:x=y
    · subst e
      go_wp2_with fail
      go_quiet (fail)
      go_wp2_with fail
      go_roundw
      case rel =>
       obtain ⟨k,e⟩:=HD.out;refine ⟨⟨k+nq,by rw [e,World.drewN_drewN]⟩,i+1,by omega,by go_num,fun j hj=>?_⟩
       by_cases ej:j=i
       · subst ej
         rw [HX.out,HY.out]
       · exact HA.out j (by omega)
      case measure=>simp [intOf];omega
    · have e1:(x != y)=true:=by simpa using e
      have e2:(x == y)=false:=by simpa using e
      have HN:=Zh (show decide (l=l2)=false from decide_eq_false (fun ee=>by
       have:=HX.out;rw [ee,HY.out] at this;exact e (Yv this).symm))
      have HE:=Zh e;clear e
      go_wp2_with fail
      go_quiet (fail)
      go_wp2_with fail
      go_ret
      obtain ⟨k,e⟩:=HD.out;exact ⟨Qbe HN.out.symm,k+nq,by rw [e,World.drewN_drewN]⟩
  · obtain rfl:n=i:=by omega
    have HE:=Zh (show decide (l=l2)=true from decide_eq_true (List.ext_getElem? (fun j=>by
     rcases Nat.lt_or_ge j n with h|h
     · exact HA.out j h
     · rw [Yd (by rw [HL.out];exact h),Yd (by rw [HL2.out];exact h)])))
    clear hd
    go_wp2_with fail
    go_ret
    exact ⟨Qbe HE.out.symm,HD.out⟩
end Go.Proofs.YthoagdpakddbdaaGreatDoor
namespace Go.Proofs.YthoagdpakddbdaaGreatDoor
open Go.RowKit Go.Extern.Stop Go.Stop Go.Extern Go.Proofs.Tryz
attribute [local go_sem ↓] Go.wp_at_zero Go.wp_at_succ
theorem GO.step {W W':World}{F G F':Nat→Prop}{g o B:Nat}{N M:Qai} {ls:List (List Int)} (h:GO W F G g o N ls) (hk:Kin N M) (hg:GrO W' F' g M) (hF:∀ b,F' b→(F b∨W.heap.size≤b)∧b<B) (hK:Qax (fun b=>¬F b) W W') (hz:W.heap.size≤W'.heap.size):GO W' F' G g o M ls :=
 ⟨hg,(h.ov.le (hK.mono (fun b hb=>h.dis b hb)).msk).alike hk.al,fun b hb hf=>by
  have h1:=h.lt b hb
  rcases (hF b hf).1 with h2|h2
  · exact h.dis b hb h2
  · omega,fun b hb=>Yu (h.lt b hb) hz⟩
theorem Blk.msk_ {w:World}{G:Nat→Prop}{g:Nat}{t:TypeId}{cs:Array Value}(h:Blk w g t cs)(hG:G g):Blk (msk w G) g t cs:=(Qqm hG).trans h
theorem Blk.rdCh1 {w:World}{g:Nat}{c:Chn} (h:Blk w g 83 #[.int .i64 c.1,.int .i64 c.2.1,.int .i64 c.2.2.1,.int .i64 c.2.2.2.1,.int .i64 c.2.2.2.2]):Qig w (some ⟨g,0,none⟩) 1 [c] :=
 ⟨rfl,fun i x hx=>by
  match i,hx with
  | 0,hx =>
   cases hx
   obtain ⟨h0,h1,h2,h3,h4⟩:=h.chn;exact ⟨g,0,rfl,by simpa using h0,by simpa using h1,by simpa using h2,by simpa using h3,by simpa using h4⟩
  | i+1,hx=>simp at hx⟩
theorem k_how:Qlv (tb Qiz (Qdl Qbv Qiz ch30))=2:=by decide
theorem k_dif:tb Qiz (difI Qbv.ar Qiz [11,2] [31,2])=[[true,false],[false]]:=by decide
theorem k_sum9:Qbr (gatesOf Qbv.ar Qiz)≤1000000000:=by rw [Qpt];decide
set_option maxRecDepth 20000 in
set_option maxHeartbeats 4000000 in
theorem Qvy (w:World)(hg:w.cell? ⟨0,0,none⟩=some Qmv):Calls prog 8 #[] w fun e w'=>e=.returned (.bool true)∧Below w.heap.size w w':=by
 have HG:=Zh hg;have hg0:=Qae hg;simp only at hg0;clear hg
 go_enter func8,ntmps8
 go_wp2_with fail
 with_reducible refine (ring_any w).mono ?_
 rintro e w1 ⟨A,B,C,rfl,hN,hb1⟩;have HN1:=Zh hN;have HB1:=Zh hb1;clear hN hb1
 go_wp2_with fail
 (refine Qag ?_;intro w2 hw2)
 have hb2:Below w1.heap.size w1 w2:=by rw [hw2];exact Qaf
 have hX2:Blk w2 w1.heap.size 26 #[.slice A 3 3,.slice B 4 4,.slice C 3 3]:=by rw [hw2];exact Blk.new _ _ _
 have HN2:=Zh (HN1.out.below hb2);have HB2:=Zh (Zb HB1.out hb2);clear hw2 hb2 HN1 HB1;have HSX:=Zh (show ∀ V,Blk V w1.heap.size 26 #[.slice A 3 3,.slice B 4 4,.slice C 3 3]→V.cell? ⟨w1.heap.size,0,none⟩=some (.slice A 3 3)∧V.cell? ⟨w1.heap.size,1,none⟩=some (.slice B 4 4)∧V.cell? ⟨w1.heap.size,2,none⟩=some (.slice C 3 3) from fun V hV=>⟨Zq hV,Zq hV,Zq hV⟩)
 refine wp_region_held_drew (S:=fun V=>Blk V w1.heap.size 26 #[.slice A 3 3,.slice B 4 4,.slice C 3 3]) (by kernel_rfl) hX2.drew (fun _=>?_);refine tz 0 13 ?_;refine tz 2 15 ?_;refine Zk 1 (fun K hK=>?_);go_simp;with_reducible refine (Qnr A B C 3 4 3 3 4 3 Qbv w2.drew (HN2.out.below (Zr _ _).drew) Qsj).mono ?_
 rintro e w3 ⟨g,rfl,hG,hb3⟩;have hb23:Below w2.heap.size w2 w3:=(Zr _ _).drew.trans hb3;have hX3:=hX2.below hb23 hX2.lt;have HN3:=Zh (HN2.out.below hb23);have HB3:=Zh (Zb HB2.out hb23);have HG3:=Zh hG;have hz2:=HB2.out.size;clear hG hb3 hb23 hX2 HN2;go_simp;refine hK.out _ _ hX3 (fun _=>?_);clear hK K;refine Zk 3 (fun K hK=>?_);go_simp;with_reducible refine (two_any w3).mono ?_
 rintro e w4 ⟨Q,rfl,hT,hb4⟩;have hX4:=hX3.below hb4 hX3.lt;have HT4:=Zh hT;have HN4:=Zh (HN3.out.below hb4);have HG4:=Zh (HG3.out.below hb4);have HB4:=Zh (Zb HB3.out hb4);have hz34:=hb4.size;clear hb4 hT HN3 HG3 HB3;go_simp;refine hK.out _ _ hX4 (fun _=>?_);clear hK K;refine Zk 4 (fun K hK=>?_);go_simp;with_reducible refine (Qpz A B C Q 3 4 3 3 4 3 2 2 Qbv Qiz w4 HN4.out Qsj HT4.out k_part).mono ?_
 rintro e w5 ⟨o,rfl,hO,hb5⟩;have hX5:=hX4.below hb5 hX4.lt;obtain ⟨F,G,hGO,hFL⟩:∃ F G,GO w5 F G g o Qbv Qiz∧∀ b,F b→w.heap.size≤b:=⟨_,_,⟨HG4.out.below hb5,hO,fun b h1 h2=>by omega,fun b h=>h.2⟩,fun b h=>Yx hz2 h.1⟩;have HGO:=Zh hGO;have HFL:=Zh hFL;have HB5:=Zh (Zb HB4.out hb5);clear hb5 hO HN4 HG4 HB4 HT4 hGO hFL hz34 hz2 HB2;go_simp;refine hK.out _ _ hX5 (fun _=>?_);clear hK K;refine tz 5 2 ?_;refine tz 6 3 ?_;refine Zd ?_;clear HSX hX3 hX4 hX5
 go_wp2_with fail
 (refine Qac ?_;intro w6 hw6)
 have hb6:Below w5.heap.size w5 w6:=by rw [hw6];exact Qaf
 have hA6:Blk w6 w5.heap.size 2 (Qad [11,2]).toArray:=by rw [hw6];exact Blk.alloc (Blk.new _ _ _) _
 have hC6:Blk w6 (w5.heap.size+1) 83 #[.int .i64 1,.int .i64 0,.int .i64 0,.int .i64 0,.int .i64 30]:=by rw [hw6];exact Blk.new' _ _ _ (by simp)
 clear hw6;have HGO6:=Zh (HGO.out.below hb6);have HB6:=Zh (Zb HB5.out hb6);have hF5:∀ b,w5.heap.size≤b→¬F b:=fun b hb hf=>by have:=HGO.out.gr.lt hf;omega
 have HD:=do_ok w6 g o F Qbv Qiz (some ⟨w5.heap.size+1,0,none⟩) (some ⟨w5.heap.size,0,none⟩) 1 1 2 ch30 [11,2] HGO6.out.gr HGO6.out.ovF k_part k_sum9 (by rw [Qpt];exact (hA6.msk_ (hF5 _ (Zn _))).rdI rfl) k_all ((hC6.msk_ (hF5 _ (Nat.le_succ _))).rdCh1 (c:=(1,0,0,0,30))) Qxs (by decide);rw [Qpt] at HD;clear hb6 hA6 hC6 HGO HB5;with_reducible refine HD.mono ?_
 clear HD;unfold DoP;rintro r w7 ⟨Bc,cl,F',rfl,hz,hBc,hall,hF',hG',hKp,hsz,hBel⟩;obtain rfl:=hall.uniq m_all;rw [k_how,Qpt];have HGO7:=Zh (HGO6.out.step Qeu hG' hF' hKp hsz);have HB7:=Zh (HB6.out.trans (hBel w.heap.size HB6.out.size HFL.out));have HC7:=Zh hBc;clear hz hBc hall hF' hG' hKp hsz hBel HGO6 HB6
 go_wp2_with fail
 (refine Qac ?_;intro w8 hw8)
 have hb8:Below w7.heap.size w7 w8:=by rw [hw8];exact Qaf
 have hA8:Blk w8 w7.heap.size 2 (Qad [11,2]).toArray:=by rw [hw8];exact Blk.new _ _ _
 clear hw8;have HGO8:=Zh (HGO7.out.below hb8);have HB8:=Zh (Zb HB7.out hb8);have HC8:=Zh (HC7.out.below hb8 HC7.out.lt);have HD:=diff_ok w8 o Qbv.ar Qiz (some ⟨w7.heap.size,0,none⟩) (some ⟨Bc,0,none⟩) 2 2 2 [11,2] [31,2] (HGO8.out.ovR.alike Qeu.symm.al) (hA8.rdI rfl) (HC8.out.rdI rfl) Qpt.symm (by omega) (by decide) (by decide) (by decide);rw [k_dif,show Qiz.length=2 from rfl] at HD
 clear hb8 hA8 HGO7 HB7 HC7;with_reducible refine HD.mono ?_
 clear HD;unfold TlP;rintro r w9 ⟨TT,cs,bs,rfl,hTT,hb9⟩;have HGO9:=Zh (HGO8.out.below hb9);have HB9:=Zh (Zb HB8.out hb9);have HC9:=Zh (HC8.out.below hb9 HC8.out.lt);have HT9:=Zh (show RdQ w9 (some ⟨TT,0,none⟩) 2 [[true,false],[false]] from hTT.rdQ (by decide))
 clear hb9 hTT HGO8 HB8 HC8
 go_wp2_with fail
 with_reducible refine (do_size w9 g o Qdr.ar Qiz none none 0 0 0 0 HGO9.out.ovR (by rw [Qeu.al.gatesOf,Qpt];omega)).mono ?_
 rintro r wa ⟨va,rfl,hch,hba⟩;obtain ⟨tv,xv,rfl⟩:=Qcb hch;have HCH:=Zh hch;have HGOa:=Zh (HGO9.out.below hba);have HBa:=Zh (Zb HB9.out hba);have HCa:=Zh (HC9.out.below hba HC9.out.lt);have HTa:=Zh (HT9.out.below hba);clear hch hba HGO9 HB9 HC9 HT9
 go_wp2_with fail
 (refine Qac ?_;intro wb hwb)
 have hbb:Below wa.heap.size wa wb:=by rw [hwb];exact Qaf
 have hAb:Blk wb wa.heap.size 2 (Qad [31,2]).toArray:=by rw [hwb];exact Blk.new _ _ _
 clear hwb;with_reducible refine (Qdw (some ⟨Bc,0,none⟩) (some ⟨wa.heap.size,0,none⟩) 2 2 2 2 [31,2] [31,2] wb ((HCa.out.below hbb HCa.out.lt).rdI rfl) (hAb.rdI rfl) (by omega) (by omega)).mono ?_
 rintro e wc ⟨rfl,kc,hwc⟩;rw [show decide ((([31,2]:List Int))=[31,2])=true from rfl]
 have hbc:Below wa.heap.size wa wc:=by rw [hwc];exact Qaw hbb kc
 have HCHc:=Zh (HCH.out.below hbc);have HGOc:=Zh (HGOa.out.below hbc);have HBc:=Zh (Zb HBa.out hbc);have HTc:=Zh (HTa.out.below hbc);clear hwc hbb hbc hAb HCH HGOa HBa HCa HTa
 go_wp2_with fail
 (refine Qac ?_;intro wd hwd)
 have hbd:Below wc.heap.size wc wd:=by rw [hwd];exact Qaf
 have hQd:RdQ wd (some ⟨wc.heap.size+1+1,0,none⟩) 2 [[true,false],[false]]:=by
  have b0:Blk wd wc.heap.size 4 (Qca [true,false]):=by rw [hwd];exact Blk.alloc (Blk.alloc (Blk.new wc 4 (Qca [true,false])) _) _
  have b1:Blk wd (wc.heap.size+1) 4 (Qca [false]):=by rw [hwd];exact Blk.alloc (Blk.new' _ 4 (Qca [false]) (by simp)) _
  have b2:Blk wd (wc.heap.size+1+1) 80 #[.slice (some ⟨wc.heap.size,0,none⟩) 2 2,.slice (some ⟨wc.heap.size+1,0,none⟩) 1 1]:=by rw [hwd];exact Blk.new' _ _ _ (by simp)
  refine ⟨rfl,fun i l hl=>?_⟩
  match i,hl with
  | 0,hl =>
   cases hl
   exact ⟨wc.heap.size+1+1,0,_,2,2,rfl,Zq b2,b0.rdB rfl,Zn _,by omega⟩
  | 1,hl =>
   cases hl
   exact ⟨wc.heap.size+1+1,0,_,1,1,rfl,Zq b2,b1.rdB rfl,Zn _,by omega⟩
  | k+2,hl=>simp at hl
 clear hwd;with_reducible refine (Qoh (some ⟨TT,0,none⟩) (some ⟨wc.heap.size+1+1,0,none⟩) 2 2 2 _ wd (HTc.out.below hbd) hQd (by omega) (by decide)).mono ?_
 rintro e we ⟨rfl,hbe⟩;have hbde:=Zb hbd hbe;have HCHe:=Zh (HCHc.out.below hbde);have HGOe:=Zh (HGOc.out.below hbde);have HBe:=Zh (Zb HBc.out hbde);clear hbd hbe hbde hQd HCHc HGOc HBc HTc
 go_wp2_with fail
 with_reducible refine (Qwn (⟨#[109,101,110,100]⟩:ByteArray) 0 1 we).mono ?_
 rintro r wf ⟨_,rfl,⟨A4,n4,m4,rfl,h4,h5⟩,hbf⟩;have HR4:=Zh h4;have HCHf:=Zh (HCHe.out.below hbf);have HGOf:=Zh (HGOe.out.below hbf);have HBf:=Zh (Zb HBe.out hbf);clear h4 hbf HCHe HGOe HBe
 go_wp2_with fail
 with_reducible refine (Qpn (.iface tv xv) A4 n4 m4 [((⟨#[109,101,110,100]⟩:ByteArray),0)] 1 wf HCHf.out HR4.out (by omega) (Zc HBf.out (Zn _) HG.out) (by omega)).mono ?_
 rintro r wh ⟨rfl,hbh⟩;have HGOh:=Zh (HGOf.out.below hbh);have HBh:=Zh (Zb HBf.out hbh);clear hbh HGOf HBf HCHf HR4
 go_wp2_with fail
 have HWG:=show Calls prog 32 #[.pointer (some ⟨g,0,none⟩),.int .i64 0] wh _ from Qet g 0 Qdr (0,1,30) wh HGOh.out.gr.rd rfl
 with_reducible refine HWG.mono ?_
 rintro r wi ⟨rfl,rfl⟩
 go_wp2_with fail
 go_ret
 exact ⟨rfl,HBh.out⟩
end Go.Proofs.YthoagdpakddbdaaGreatDoor
namespace Go.Proofs.YthoagdpakddbdaaGreatDoor
open Go.RowKit Go.Proofs.Tryz
attribute [local go_sem ↓] Go.wp_at_zero Go.wp_at_succ
set_option maxHeartbeats 400000 in
theorem Qxo (A:Option Addr)(n c:Nat)(l:List Int)(v:Int)(w:World)(h:RdI w A n l)(hn:n≤1000000000) :
 Calls prog 98 #[.slice A n c,.int .i64 v] w fun e w'=>e=.returned (.int .i64 (plI l v))∧w=w':=by
 have HR:=Zh h;have HL:=Zh h.1;clear h
 go_enter func98,ntmps98
 go_wp2_with fail
 go_loop [5] (fun q=>∃ k:Nat,k≤n∧q=.int .i64 k∧∀ j x,j<k→l[j]?=some x→x≠v) (fun q=>n-(intOf q).toNat)
 case atStart=>exact ⟨0,Nat.zero_le _,rfl,fun _ _ h=>absurd h (Nat.not_lt_zero _)⟩
 case round =>
  obtain ⟨k,hk,rfl,hj⟩:=hrel;have HJ:=Zh hj;clear hj
  by_cases hlt:k<n
  · obtain ⟨b,o,x,rfl,hx,hc⟩:=HR.out.at_ hlt
    have i1:(0:Int)≤(k:Int):=by omega
    have i2:(k:Int)<(n:Int):=by omega
    by_cases e:x=v
    · have HP:=Zh (Qng (e▸hx) HJ.out)
      have e1:(x == v)=true:=by simpa using e
      have e2:(v == x)=true:=by simpa using e.symm
      clear e hx
      go_wp2_with fail
      go_ret
      exact ⟨Qbu HP.out.symm,rfl⟩
    · have e1:(x == v)=false:=by simpa using e
      have e2:(v == x)=false:=by simpa using (fun h:v=x=>e h.symm)
      have HX:=Zh hx;have HE:=Zh e;clear e hx
      go_wp2_with fail
      go_round
      case rel=>exact ⟨k+1,by omega,by go_num,fun j y hj hy=>by
       by_cases ej:j=k
       · subst ej
         rw [HX.out] at hy
         cases hy
         exact HE.out
       · exact HJ.out j y (by omega) hy⟩
      case measure=>simp [intOf];omega
  · obtain rfl:n=k:=by omega
    have HP:=Zh (Qcq (l:=l) (v:=v) (fun hm=>by
     obtain ⟨j,hj⟩:=Yr hm;exact HJ.out j v (by rw [←HL.out];exact (Zs hj).1) hj rfl))
    go_wp2_with fail
    go_ret
    exact ⟨Qbu HP.out.symm,rfl⟩
theorem Qha (A B C:Option Addr)(n m k c d e:Nat)(a:Int)(w:World)(h0:0≤a)(h1:a<m) :
 Calls prog 95 #[.agg #[.slice A n c,.slice B m d,.slice C k e],.int .i64 a] w fun r w'=>r=.returned (.bool true)∧Below w.heap.size w w':=by
 go_enter func95,ntmps95
 go_wp2
 go_ret
 exact ⟨Qbe (by first|(simp;done)|(simp;omega)),Qaf⟩
theorem idx_at {f:Tri→Int}{l:List Tri}{k:Nat}{y:Tri} (h:l[k]?=some y):∀ j,k<j→j≤l.length→(idx f (l.take j) (f y))[(idx f (l.take k) (f y)).length]?=some (k:Int):=by
 intro j
 induction j with
 | zero=>intro h1;omega
 | succ j ih =>
  intro h1 h2;obtain ⟨z,hz⟩:∃ z,l[j]?=some z:=⟨_,Zg (by omega)⟩;rw [Qtb hz]
  by_cases e:k=j
  · subst e
    rw [h] at hz
    cases hz
    rw [Yb (Zn _),Yy];simp
  · have:=ih (by omega) (by omega)
    rw [Yc (Zs this).1];exact this
theorem plI_idx {f:Tri→Int}{l:List Tri}{k:Nat}{y:Tri} (h:l[k]?=some y):plI (idx f l (f y)) (k:Int)=((idx f (l.take k) (f y)).length:Nat):=by
 have hk:=(Zs h).1;have h1:=idx_at (f:=f) h l.length hk (Zn _);rw [List.take_length] at h1;refine Qng h1 (fun j x hj hx=>?_);have hs:=Qmk f (f y) l;rw [List.pairwise_iff_getElem] at hs;obtain ⟨p1,e1⟩:=Zs hx;obtain ⟨p2,e2⟩:=Zs h1;have:=hs j _ p1 p2 hj;omega
set_option maxHeartbeats 1000000 in
theorem Qqb (A:Option Addr)(n c:Nat)(t:Qby)(i o:Nat)(w:World)(h:RdI w A n t.costs)(ht:Qih t) (hi:(i:Int)<t.ins) (ho:(o:Int)<t.outs) :
 Calls prog 99 #[.agg #[.int .i64 t.ins,.int .i64 t.outs,.slice A n c],.int .i64 i,.int .i64 o] w fun e w'=>∃ x,t.costs[i*t.outs.toNat+o]?=some x∧e=.returned (.int .i64 x)∧Below w.heap.size w w':=by
 obtain ⟨p,q,cs⟩:=t;simp only at h hi ho ⊢;have i0:0≤p:=ht.i0;have i16:p≤16:=ht.i16;have o0:0≤q:=ht.o0;have o16:q≤16:=ht.o16;have hm:=Qgo i0 i16 o0 o16;have hl:(cs.length:Int)=p*q:=ht.len
 have hk:(i:Int)*q+o<p*q:=by
  have h1:((i:Int)+1)*q≤p*q:=Int.mul_le_mul_of_nonneg_right (by omega) o0;rw [Int.add_mul,Int.one_mul] at h1;omega
 have hk0:0≤(i:Int)*q:=Int.mul_nonneg (by omega) o0;obtain ⟨k,hkk⟩:∃ k:Nat,(k:Int)=(i:Int)*q+o:=⟨((i:Int)*q+o).toNat,by omega⟩
 have hke:i*q.toNat+o=k:=by
  have:((i*q.toNat+o:Nat):Int)=(k:Int):=by
   rw [hkk]
   push_cast
   rw [Int.toNat_of_nonneg o0]
  exact_mod_cast this
 rw [hke];have hkl:k<n:=by rw [←h.1];omega
 obtain ⟨b,oo,x,hA,hx,hc⟩:=h.at_ hkl;subst hA;have e1:IntKind.i64.wrap ((i:Int)*q)=(i:Int)*q:=IntWalk.i64_in _ (by omega);have e2:IntKind.i64.wrap ((i:Int)*q+o)=(k:Int):=by rw [←hkk];exact IntWalk.i64_in _ (by omega)
 have i1:((k:Int))<(n:Int):=by omega
 have i2:¬(p≤(i:Int)):=by omega
 have i3:¬(q≤(o:Int)):=by omega
 have i4:¬((i:Int)<0):=by omega
 have i5:¬((o:Int)<0):=by omega
 have HX:=Zh hx;have hb:=Qae hc;simp only at hb;clear hx hk hm hl hkk hke h ht
 go_enter func99,ntmps99
 go_wp2_with fail
 go_ret
 exact ⟨x,HX.out,rfl,Qaf⟩
theorem RdW.keepB {w w':World}{A:Option Addr}{n:Nat} {l:List (ByteArray×Int)} (h:RdW w A n l) (hk:∀ b,Qaa A=some b→w'.heap[b]?=w.heap[b]?):RdW w' A n l :=
 ⟨h.1,fun i x hx=>by
  obtain ⟨b,o,e,h1,h2⟩:=h.2 i x hx;have hb:=hk b (by rw [e];rfl);exact ⟨b,o,e,Qdi hb h1,Qdi hb h2⟩⟩
theorem RdW.setFar {W:World}{A:Option Addr}{n:Nat} {l:List (ByteArray×Int)} (h:RdW W A n l) (g i:Nat) (v:Value) (hne:∀ b,Qaa A=some b→b≠g∧b<W.heap.size):RdW (W.setCell ⟨g,i,none⟩ v) A n l :=
 h.keepB (fun b e=>(Qax.set W g i v (G:=fun b=>b≠g) (fun h=>h rfl)) b (hne b e).1 (hne b e).2)
theorem Qqu (s:ByteArray)(k c:Int)(w:World):Calls prog 14 #[.string s,.int .i64 k,.int .i64 c] w fun e w'=>∃ A n m,e=.returned (.agg #[.slice A n m,.int .i64 c])∧RdW w' A n [(s,k)]∧(∀ b,Qaa A=some b→w.heap.size≤b∧b<w'.heap.size)∧n≤1000000∧Below w.heap.size w w':=by
 go_enter func14,ntmps14
 go_wp2
 refine bodyPost_ret (v:=.agg #[.slice (some ⟨w.heap.size+1,0,none⟩) 1 1,.int .i64 c]) (by simp [results,results14,go_sem]) rfl ?_;refine ⟨_,1,1,rfl,⟨rfl,fun i x hx=>?_⟩,fun b e=>?_,by omega,Qaf⟩
 · match i,hx with
   | 0,hx=>cases hx;exact ⟨_,_,rfl,by simp,by simp⟩
   | i+1,hx=>simp at hx
 · have e:w.heap.size+1=b:=Yv e
   subst e;exact ⟨by omega,by simp⟩
theorem Qse (A B C:Option Addr)(n m k c d e:Nat)(a:Int)(w:World) (h1:¬(0≤a∧a<m)) :
 Calls prog 95 #[.agg #[.slice A n c,.slice B m d,.slice C k e],.int .i64 a] w fun r w'=>r=.returned (.bool false)∧Below w.heap.size w w':=by
 by_cases h0:0≤a
 · have h2:¬a<m:=by omega
   clear h1
   go_enter func95,ntmps95
   go_wp2
   go_ret
   exact ⟨Qbe (by first|(simp;done)|(simp;omega)),Qaf⟩
 · clear h1
   go_enter func95,ntmps95
   go_wp2
   go_ret
   exact ⟨Qbe (by first|(simp;done)|(simp;omega)),Qaf⟩
set_option maxRecDepth 20000 in
set_option maxHeartbeats 8000000 in
theorem Quf (A B C:Option Addr)(n m k c d e:Nat)(N:Qai)(w:World)(x y z u v:Int)(h:Qbc w A B C n m k N) :
 Calls prog 50 #[.agg #[.slice A n c,.slice B m d,.slice C k e],.agg #[.int .i64 x,.int .i64 y,.int .i64 z,.int .i64 u,.int .i64 v]] w fun r w'=>r=.returned (.int .i64 (Qqw N (x,y,z,u,v)))∧Below w.heap.size w w':=by
 obtain ⟨E,hE⟩:∃ E,E=Qqw N (x,y,z,u,v):=⟨_,rfl⟩;rw [←hE];rw [Qwi] at hE;have HH:=Zh h;have hm:N.ar.length=m:=h.2.1.1;have hkk:N.ts.length=k:=h.2.2.1;clear h
 by_cases hx1:x=1
 · rw [if_pos hx1] at hE
   subst hx1
   by_cases hz:z=0
   rotate_left
   · rw [if_pos (.inl hz)] at hE
     subst hE
     go_enter func50,ntmps50
     go_wp2_with fail
     go_ret
     exact ⟨rfl,Qaf⟩
   by_cases hu:u=0
   rotate_left
   · rw [if_pos (.inr hu)] at hE
     subst hE;subst hz
     go_enter func50,ntmps50
     go_wp2_with fail
     go_ret
     exact ⟨rfl,Qaf⟩
   rw [if_neg (by rintro (h|h);exact h hz;exact h hu)] at hE;subst hz;subst hu
   by_cases hy:0≤y∧y<(m:Int)
   rotate_left
   · rw [if_pos (by rw [hm];exact hy)] at hE
     subst hE;have HS:=Zh (fun V=>Qse A B C n m k c d e y V hy);clear hy
     go_enter func50,ntmps50
     go_wp2_with fail
     (refine Qac ?_;intro w1 hw1)
     have hb1:Below w.heap.size w w1:=by rw [hw1];exact Qaf
     clear hw1;with_reducible refine (HS.out w1).mono ?_
     rintro r w2 ⟨rfl,hb2⟩;have HB2:=Zh (Zb hb1 hb2)
     go_wp2_with fail
     go_ret
     exact ⟨rfl,HB2.out⟩
   rw [if_neg (by rw [hm];exact fun h=>h hy)] at hE;have HS:=Zh (fun V=>Qha A B C n m k c d e y V hy.1 hy.2);clear hy
   go_enter func50,ntmps50
   go_wp2_with fail
   (refine Qac ?_;intro w1 hw1)
   have hb1:Below w.heap.size w w1:=by rw [hw1];exact Qaf
   have hY:Blk w1 (w.heap.size+1) 71 #[.int .i64 1,.int .i64 y,.int .i64 0,.int .i64 0,.int .i64 v]:=by rw [hw1];exact Qaz
   clear hw1;with_reducible refine (HS.out w1).mono ?_
   rintro r w2 ⟨rfl,hb2⟩;have hY2:=hY.below hb2 hY.lt;have x4:w2.cell? ⟨w.heap.size+1,4,none⟩=some (.int .i64 v):=Zq hY2;have xl:=hY2.lt;have HB2:=Zh (Zb hb1 hb2);have HWT:=Zh (Qcr v w2);clear hY hb1 hb2 hY2
   cases hw:wOk v with
   | true =>
    rw [hw,if_pos rfl] at hE;subst hE
    go_wp2_with fail
    with_reducible refine HWT.out.mono ?_
    rintro r w' ⟨rfl,rfl⟩;rw [hw]
    go_wp2_with fail
    go_ret
    exact ⟨rfl,HB2.out⟩
   | false =>
    rw [hw,if_neg (by simp)] at hE;subst hE
    go_wp2_with fail
    with_reducible refine HWT.out.mono ?_
    rintro r w' ⟨rfl,rfl⟩;rw [hw]
    go_wp2_with fail
    go_ret
    exact ⟨rfl,HB2.out⟩
 rw [if_neg hx1] at hE
 by_cases hx2:x=2
 rotate_left
 · rw [if_neg hx2] at hE
   subst hE;have e1:(x != 1)=true:=by simpa using hx1
   have e2:(x != 2)=true:=by simpa using hx2
   have e3:(x == 1)=false:=by simpa using hx1
   have e4:(x == 2)=false:=by simpa using hx2
   clear hx1 hx2
   go_enter func50,ntmps50
   go_wp2_with fail
   go_ret
   exact ⟨rfl,Qaf⟩
 rw [if_pos hx2] at hE;subst hx2;clear hx1
 by_cases hy0:y<0
 · rw [if_pos (by rintro ⟨g0,_⟩;simp only at g0;omega)] at hE
   subst hE
   go_enter func50,ntmps50
   go_wp2_with fail
   (refine Qag ?_;intro w1 hw1)
   have hb1:Below w.heap.size w w1:=by rw [hw1];exact Qaf
   have hX:Blk w1 w.heap.size 26 #[.slice A n c,.slice B m d,.slice C k e]:=by rw [hw1];exact Qaz
   have hY:Blk w1 (w.heap.size+1) 71 #[.int .i64 2,.int .i64 y,.int .i64 z,.int .i64 u,.int .i64 v]:=by rw [hw1];exact Qaz
   clear hw1;have HSX:=Zh (show ∀ V,Below w1.heap.size w1 V→V.cell? ⟨w.heap.size,2,none⟩=some (.slice C k e)∧V.cell? ⟨w.heap.size+1,1,none⟩=some (.int .i64 y)∧V.cell? ⟨w.heap.size+1,2,none⟩=some (.int .i64 z)∧V.cell? ⟨w.heap.size+1,3,none⟩=some (.int .i64 u)∧decide (y<0)=true from fun V hV=>⟨by rw [(hX.below hV hX.lt).cell];rfl,by rw [(hY.below hV hY.lt).cell];rfl,by rw [(hY.below hV hY.lt).cell];rfl,by rw [(hY.below hV hY.lt).cell];rfl,decide_eq_true (by omega)⟩)
   refine wp_region_held_drew (S:=fun V=>Below w1.heap.size w1 V) (by kernel_rfl) (Zr _ _).drew (fun _=>?_);refine tz 0 24 ?_;refine tz 1 25 ?_;refine tz 2 26 ?_;refine tz 3 27 ?_;refine tw 4 28 ?_;refine tw 5 29 ?_;refine tw 6 30 ?_;refine tw 7 31 ?_;refine tw 8 32 ?_;refine tw 9 33 ?_;refine tz 10 34 ?_;refine tz 11 35 ?_;refine tw 12 36 ?_;refine tw 13 37 ?_;refine tw 14 38 ?_;refine tz 15 39 ?_;refine tz 16 40 ?_;refine tw 17 41 ?_;refine tw 18 42 ?_;refine tw 19 43 ?_;refine tw 20 44 ?_;refine tw 21 45 ?_;refine tw 22 46 ?_;refine tw 23 47 ?_;refine tw 24 48 ?_;refine tw 25 49 ?_;refine tw 26 50 ?_;refine tz 27 51 ?_;refine tz 28 52 ?_;refine tw 29 53 ?_;refine tw 30 54 ?_;refine tw 31 55 ?_;refine tz 32 56 ?_;refine tz 33 57 ?_;refine tw 34 58 ?_;refine tw 35 59 ?_;refine tw 36 60 ?_;refine tw 37 61 ?_;refine tw 38 62 ?_;refine tw 39 63 ?_;refine tw 40 64 ?_;refine tw 41 65 ?_;refine tw 42 66 ?_;refine tw 43 67 ?_;refine tz 44 68 ?_;refine Zd ?_;clear HSX
   go_wp2_with fail
   go_ret
   exact ⟨rfl,Zb hb1 Qaf⟩
 obtain ⟨p,rfl⟩:∃ p:Nat,y=p:=⟨y.toNat,by omega⟩;clear hy0
 by_cases hp:p<k
 rotate_left
 · have ht:N.ts[p]?=none:=Yd (by omega)
   rw [if_pos (by rintro ⟨_,t0,g1,_⟩;simp only [Yl] at g1;rw [ht] at g1;cases g1)] at hE
   subst hE;clear ht
   go_enter func50,ntmps50
   go_wp2_with fail
   (refine Qag ?_;intro w1 hw1)
   have hb1:Below w.heap.size w w1:=by rw [hw1];exact Qaf
   have hX:Blk w1 w.heap.size 26 #[.slice A n c,.slice B m d,.slice C k e]:=by rw [hw1];exact Qaz
   have hY:Blk w1 (w.heap.size+1) 71 #[.int .i64 2,.int .i64 p,.int .i64 z,.int .i64 u,.int .i64 v]:=by rw [hw1];exact Qaz
   clear hw1;have HSX:=Zh (show ∀ V,Below w1.heap.size w1 V→V.cell? ⟨w.heap.size,2,none⟩=some (.slice C k e)∧V.cell? ⟨w.heap.size+1,1,none⟩=some (.int .i64 p)∧V.cell? ⟨w.heap.size+1,2,none⟩=some (.int .i64 z)∧V.cell? ⟨w.heap.size+1,3,none⟩=some (.int .i64 u)∧decide ((p:Int)<0)=false∧decide ((k:Int)≤(p:Int))=true∧decide (k≤p)=true from fun V hV=>⟨by rw [(hX.below hV hX.lt).cell];rfl,by rw [(hY.below hV hY.lt).cell];rfl,by rw [(hY.below hV hY.lt).cell];rfl,by rw [(hY.below hV hY.lt).cell];rfl,decide_eq_false (by omega),decide_eq_true (by omega),decide_eq_true (by omega)⟩)
   refine wp_region_held_drew (S:=fun V=>Below w1.heap.size w1 V) (by kernel_rfl) (Zr _ _).drew (fun _=>?_);refine tz 0 24 ?_;refine tz 1 25 ?_;refine tz 2 26 ?_;refine tz 3 27 ?_;refine tz 4 28 ?_;refine tz 5 29 ?_;refine tz 6 30 ?_;refine tz 7 31 ?_;refine tz 8 32 ?_;refine tz 9 33 ?_;refine tz 10 34 ?_;refine tz 11 35 ?_;refine tw 12 36 ?_;refine tw 13 37 ?_;refine tw 14 38 ?_;refine tz 15 39 ?_;refine tz 16 40 ?_;refine tw 17 41 ?_;refine tw 18 42 ?_;refine tw 19 43 ?_;refine tw 20 44 ?_;refine tw 21 45 ?_;refine tw 22 46 ?_;refine tw 23 47 ?_;refine tw 24 48 ?_;refine tw 25 49 ?_;refine tw 26 50 ?_;refine tz 27 51 ?_;refine tz 28 52 ?_;refine tw 29 53 ?_;refine tw 30 54 ?_;refine tw 31 55 ?_;refine tz 32 56 ?_;refine tz 33 57 ?_;refine tw 34 58 ?_;refine tw 35 59 ?_;refine tw 36 60 ?_;refine tw 37 61 ?_;refine tw 38 62 ?_;refine tw 39 63 ?_;refine tw 40 64 ?_;refine tw 41 65 ?_;refine tw 42 66 ?_;refine tw 43 67 ?_;refine tz 44 68 ?_;refine Zd ?_;clear HSX
   go_wp2_with fail
   go_ret
   exact ⟨rfl,Zb hb1 Qaf⟩
 obtain ⟨t,ht⟩:∃ t,N.ts[p]?=some t:=⟨_,Zg (by omega)⟩;have HTT:=Zh ht
 have hE2:E=if ¬(0≤z∧z<t.ins∧0≤u∧u<t.outs) then 5 else if wOk v=true then 0 else 8:=by
  rw [hE]
  by_cases hb:Qnq N (2,(p:Int),z,u,v)
  · obtain ⟨_,t0,g1,g2,g3,g4,g5⟩:=id hb
    simp only [Yl] at g1 g2 g3 g4 g5;rw [ht] at g1
    cases g1
    rw [if_neg (not_not_intro hb),if_neg (not_not_intro ⟨g2,g3,g4,g5⟩)]
  · rw [if_pos hb,if_pos (fun g=>hb ⟨by simp only;omega,t,by simpa using ht,g.1,g.2.1,g.2.2.1,g.2.2.2⟩)]
 clear hE ht;have hE:=hE2;clear hE2
 by_cases hz0:z<0
 · rw [if_pos (by omega)] at hE
   subst hE
   go_enter func50,ntmps50
   go_wp2_with fail
   (refine Qag ?_;intro w1 hw1)
   have hb1:Below w.heap.size w w1:=by rw [hw1];exact Qaf
   have hX:Blk w1 w.heap.size 26 #[.slice A n c,.slice B m d,.slice C k e]:=by rw [hw1];exact Qaz
   have hY:Blk w1 (w.heap.size+1) 71 #[.int .i64 2,.int .i64 p,.int .i64 z,.int .i64 u,.int .i64 v]:=by rw [hw1];exact Qaz
   clear hw1;obtain ⟨tb,to_,eC,d0,d1,A2,n2,c2,d2,hr2,hcap2⟩:=((HH.out.below hb1).2.2).2 p _ HTT.out;subst eC
   try simp only at d0 d1
   clear d2 hr2 hcap2;have HSX:=Zh (show ∀ V,Below w1.heap.size w1 V→V.cell? ⟨w.heap.size,2,none⟩=some (.slice (some ⟨tb,to_,none⟩) k e)∧V.cell? ⟨w.heap.size+1,1,none⟩=some (.int .i64 p)∧V.cell? ⟨w.heap.size+1,2,none⟩=some (.int .i64 z)∧V.cell? ⟨w.heap.size+1,3,none⟩=some (.int .i64 u)∧V.cell? ⟨tb,to_+p*3,none⟩=some (.int .i64 t.ins)∧V.cell? ⟨tb,to_+p*3+1,none⟩=some (.int .i64 t.outs)∧decide ((p:Int)<0)=false∧decide ((k:Int)≤(p:Int))=false∧decide (k≤p)=false∧decide (z<0)=true from fun V hV=>⟨by rw [(hX.below hV hX.lt).cell];rfl,by rw [(hY.below hV hY.lt).cell];rfl,by rw [(hY.below hV hY.lt).cell];rfl,by rw [(hY.below hV hY.lt).cell];rfl,Zc hV (Zn _) d0,Zc hV (Zn _) d1,decide_eq_false (by omega),decide_eq_false (by omega),decide_eq_false (by omega),decide_eq_true (by omega)⟩)
   refine wp_region_held_drew (S:=fun V=>Below w1.heap.size w1 V) (by kernel_rfl) (Zr _ _).drew (fun _=>?_);refine tz 0 24 ?_;refine tz 1 25 ?_;refine tz 2 26 ?_;refine tz 3 27 ?_;refine tz 4 28 ?_;refine tz 5 29 ?_;refine tz 6 30 ?_;refine tz 7 31 ?_;refine tz 8 32 ?_;refine tz 9 33 ?_;refine tz 10 34 ?_;refine tz 11 35 ?_;refine tz 12 36 ?_;refine tz 13 37 ?_;refine tz 14 38 ?_;refine tz 15 39 ?_;refine tz 16 40 ?_;refine tw 17 41 ?_;refine tw 18 42 ?_;refine tw 19 43 ?_;refine tw 20 44 ?_;refine tw 21 45 ?_;refine tw 22 46 ?_;refine tw 23 47 ?_;refine tw 24 48 ?_;refine tw 25 49 ?_;refine tw 26 50 ?_;refine tz 27 51 ?_;refine tz 28 52 ?_;refine tw 29 53 ?_;refine tw 30 54 ?_;refine tw 31 55 ?_;refine tz 32 56 ?_;refine tz 33 57 ?_;refine tw 34 58 ?_;refine tw 35 59 ?_;refine tw 36 60 ?_;refine tw 37 61 ?_;refine tw 38 62 ?_;refine tw 39 63 ?_;refine tw 40 64 ?_;refine tw 41 65 ?_;refine tw 42 66 ?_;refine tw 43 67 ?_;refine tz 44 68 ?_;refine Zd ?_;clear HSX
   go_wp2_with fail
   go_ret
   exact ⟨rfl,Zb hb1 Qaf⟩
 by_cases hzi:t.ins≤z
 · rw [if_pos (by omega)] at hE
   subst hE
   go_enter func50,ntmps50
   go_wp2_with fail
   (refine Qag ?_;intro w1 hw1)
   have hb1:Below w.heap.size w w1:=by rw [hw1];exact Qaf
   have hX:Blk w1 w.heap.size 26 #[.slice A n c,.slice B m d,.slice C k e]:=by rw [hw1];exact Qaz
   have hY:Blk w1 (w.heap.size+1) 71 #[.int .i64 2,.int .i64 p,.int .i64 z,.int .i64 u,.int .i64 v]:=by rw [hw1];exact Qaz
   clear hw1;obtain ⟨tb,to_,eC,d0,d1,A2,n2,c2,d2,hr2,hcap2⟩:=((HH.out.below hb1).2.2).2 p _ HTT.out;subst eC
   try simp only at d0 d1
   clear d2 hr2 hcap2;have HSX:=Zh (show ∀ V,Below w1.heap.size w1 V→V.cell? ⟨w.heap.size,2,none⟩=some (.slice (some ⟨tb,to_,none⟩) k e)∧V.cell? ⟨w.heap.size+1,1,none⟩=some (.int .i64 p)∧V.cell? ⟨w.heap.size+1,2,none⟩=some (.int .i64 z)∧V.cell? ⟨w.heap.size+1,3,none⟩=some (.int .i64 u)∧V.cell? ⟨tb,to_+p*3,none⟩=some (.int .i64 t.ins)∧V.cell? ⟨tb,to_+p*3+1,none⟩=some (.int .i64 t.outs)∧decide ((p:Int)<0)=false∧decide ((k:Int)≤(p:Int))=false∧decide (k≤p)=false∧decide (z<0)=false∧decide (t.ins≤z)=true from fun V hV=>⟨by rw [(hX.below hV hX.lt).cell];rfl,by rw [(hY.below hV hY.lt).cell];rfl,by rw [(hY.below hV hY.lt).cell];rfl,by rw [(hY.below hV hY.lt).cell];rfl,Zc hV (Zn _) d0,Zc hV (Zn _) d1,decide_eq_false (by omega),decide_eq_false (by omega),decide_eq_false (by omega),decide_eq_false (by omega),decide_eq_true (by omega)⟩)
   refine wp_region_held_drew (S:=fun V=>Below w1.heap.size w1 V) (by kernel_rfl) (Zr _ _).drew (fun _=>?_);refine tz 0 24 ?_;refine tz 1 25 ?_;refine tz 2 26 ?_;refine tz 3 27 ?_;refine tz 4 28 ?_;refine tz 5 29 ?_;refine tz 6 30 ?_;refine tz 7 31 ?_;refine tz 8 32 ?_;refine tz 9 33 ?_;refine tz 10 34 ?_;refine tz 11 35 ?_;refine tz 12 36 ?_;refine tz 13 37 ?_;refine tz 14 38 ?_;refine tz 15 39 ?_;refine tz 16 40 ?_;refine tz 17 41 ?_;refine tz 18 42 ?_;refine tz 19 43 ?_;refine tz 20 44 ?_;refine tz 21 45 ?_;refine tz 22 46 ?_;refine tz 23 47 ?_;refine tz 24 48 ?_;refine tz 25 49 ?_;refine tz 26 50 ?_;refine tz 27 51 ?_;refine tz 28 52 ?_;refine tw 29 53 ?_;refine tw 30 54 ?_;refine tw 31 55 ?_;refine tz 32 56 ?_;refine tz 33 57 ?_;refine tw 34 58 ?_;refine tw 35 59 ?_;refine tw 36 60 ?_;refine tw 37 61 ?_;refine tw 38 62 ?_;refine tw 39 63 ?_;refine tw 40 64 ?_;refine tw 41 65 ?_;refine tw 42 66 ?_;refine tw 43 67 ?_;refine tz 44 68 ?_;refine Zd ?_;clear HSX
   go_wp2_with fail
   go_ret
   exact ⟨rfl,Zb hb1 Qaf⟩
 by_cases hu0:u<0
 · rw [if_pos (by omega)] at hE
   subst hE
   go_enter func50,ntmps50
   go_wp2_with fail
   (refine Qag ?_;intro w1 hw1)
   have hb1:Below w.heap.size w w1:=by rw [hw1];exact Qaf
   have hX:Blk w1 w.heap.size 26 #[.slice A n c,.slice B m d,.slice C k e]:=by rw [hw1];exact Qaz
   have hY:Blk w1 (w.heap.size+1) 71 #[.int .i64 2,.int .i64 p,.int .i64 z,.int .i64 u,.int .i64 v]:=by rw [hw1];exact Qaz
   clear hw1;obtain ⟨tb,to_,eC,d0,d1,A2,n2,c2,d2,hr2,hcap2⟩:=((HH.out.below hb1).2.2).2 p _ HTT.out;subst eC
   try simp only at d0 d1
   clear d2 hr2 hcap2;have HSX:=Zh (show ∀ V,Below w1.heap.size w1 V→V.cell? ⟨w.heap.size,2,none⟩=some (.slice (some ⟨tb,to_,none⟩) k e)∧V.cell? ⟨w.heap.size+1,1,none⟩=some (.int .i64 p)∧V.cell? ⟨w.heap.size+1,2,none⟩=some (.int .i64 z)∧V.cell? ⟨w.heap.size+1,3,none⟩=some (.int .i64 u)∧V.cell? ⟨tb,to_+p*3,none⟩=some (.int .i64 t.ins)∧V.cell? ⟨tb,to_+p*3+1,none⟩=some (.int .i64 t.outs)∧decide ((p:Int)<0)=false∧decide ((k:Int)≤(p:Int))=false∧decide (k≤p)=false∧decide (z<0)=false∧decide (t.ins≤z)=false∧decide (u<0)=true from fun V hV=>⟨by rw [(hX.below hV hX.lt).cell];rfl,by rw [(hY.below hV hY.lt).cell];rfl,by rw [(hY.below hV hY.lt).cell];rfl,by rw [(hY.below hV hY.lt).cell];rfl,Zc hV (Zn _) d0,Zc hV (Zn _) d1,decide_eq_false (by omega),decide_eq_false (by omega),decide_eq_false (by omega),decide_eq_false (by omega),decide_eq_false (by omega),decide_eq_true (by omega)⟩)
   refine wp_region_held_drew (S:=fun V=>Below w1.heap.size w1 V) (by kernel_rfl) (Zr _ _).drew (fun _=>?_);refine tz 0 24 ?_;refine tz 1 25 ?_;refine tz 2 26 ?_;refine tz 3 27 ?_;refine tz 4 28 ?_;refine tz 5 29 ?_;refine tz 6 30 ?_;refine tz 7 31 ?_;refine tz 8 32 ?_;refine tz 9 33 ?_;refine tz 10 34 ?_;refine tz 11 35 ?_;refine tz 12 36 ?_;refine tz 13 37 ?_;refine tz 14 38 ?_;refine tz 15 39 ?_;refine tz 16 40 ?_;refine tz 17 41 ?_;refine tz 18 42 ?_;refine tz 19 43 ?_;refine tz 20 44 ?_;refine tz 21 45 ?_;refine tz 22 46 ?_;refine tz 23 47 ?_;refine tz 24 48 ?_;refine tz 25 49 ?_;refine tz 26 50 ?_;refine tz 27 51 ?_;refine tz 28 52 ?_;refine tz 29 53 ?_;refine tz 30 54 ?_;refine tz 31 55 ?_;refine tz 32 56 ?_;refine tz 33 57 ?_;refine tw 34 58 ?_;refine tw 35 59 ?_;refine tw 36 60 ?_;refine tw 37 61 ?_;refine tw 38 62 ?_;refine tw 39 63 ?_;refine tw 40 64 ?_;refine tw 41 65 ?_;refine tw 42 66 ?_;refine tw 43 67 ?_;refine tz 44 68 ?_;refine Zd ?_;clear HSX
   go_wp2_with fail
   go_ret
   exact ⟨rfl,Zb hb1 Qaf⟩
 by_cases huo:t.outs≤u
 · rw [if_pos (by omega)] at hE
   subst hE
   go_enter func50,ntmps50
   go_wp2_with fail
   (refine Qag ?_;intro w1 hw1)
   have hb1:Below w.heap.size w w1:=by rw [hw1];exact Qaf
   have hX:Blk w1 w.heap.size 26 #[.slice A n c,.slice B m d,.slice C k e]:=by rw [hw1];exact Qaz
   have hY:Blk w1 (w.heap.size+1) 71 #[.int .i64 2,.int .i64 p,.int .i64 z,.int .i64 u,.int .i64 v]:=by rw [hw1];exact Qaz
   clear hw1;obtain ⟨tb,to_,eC,d0,d1,A2,n2,c2,d2,hr2,hcap2⟩:=((HH.out.below hb1).2.2).2 p _ HTT.out;subst eC
   try simp only at d0 d1
   clear d2 hr2 hcap2;have HSX:=Zh (show ∀ V,Below w1.heap.size w1 V→V.cell? ⟨w.heap.size,2,none⟩=some (.slice (some ⟨tb,to_,none⟩) k e)∧V.cell? ⟨w.heap.size+1,1,none⟩=some (.int .i64 p)∧V.cell? ⟨w.heap.size+1,2,none⟩=some (.int .i64 z)∧V.cell? ⟨w.heap.size+1,3,none⟩=some (.int .i64 u)∧V.cell? ⟨tb,to_+p*3,none⟩=some (.int .i64 t.ins)∧V.cell? ⟨tb,to_+p*3+1,none⟩=some (.int .i64 t.outs)∧decide ((p:Int)<0)=false∧decide ((k:Int)≤(p:Int))=false∧decide (k≤p)=false∧decide (z<0)=false∧decide (t.ins≤z)=false∧decide (u<0)=false∧decide (t.outs≤u)=true from fun V hV=>⟨by rw [(hX.below hV hX.lt).cell];rfl,by rw [(hY.below hV hY.lt).cell];rfl,by rw [(hY.below hV hY.lt).cell];rfl,by rw [(hY.below hV hY.lt).cell];rfl,Zc hV (Zn _) d0,Zc hV (Zn _) d1,decide_eq_false (by omega),decide_eq_false (by omega),decide_eq_false (by omega),decide_eq_false (by omega),decide_eq_false (by omega),decide_eq_false (by omega),decide_eq_true (by omega)⟩)
   refine wp_region_held_drew (S:=fun V=>Below w1.heap.size w1 V) (by kernel_rfl) (Zr _ _).drew (fun _=>?_);refine tz 0 24 ?_;refine tz 1 25 ?_;refine tz 2 26 ?_;refine tz 3 27 ?_;refine tz 4 28 ?_;refine tz 5 29 ?_;refine tz 6 30 ?_;refine tz 7 31 ?_;refine tz 8 32 ?_;refine tz 9 33 ?_;refine tz 10 34 ?_;refine tz 11 35 ?_;refine tz 12 36 ?_;refine tz 13 37 ?_;refine tz 14 38 ?_;refine tz 15 39 ?_;refine tz 16 40 ?_;refine tz 17 41 ?_;refine tz 18 42 ?_;refine tz 19 43 ?_;refine tz 20 44 ?_;refine tz 21 45 ?_;refine tz 22 46 ?_;refine tz 23 47 ?_;refine tz 24 48 ?_;refine tz 25 49 ?_;refine tz 26 50 ?_;refine tz 27 51 ?_;refine tz 28 52 ?_;refine tz 29 53 ?_;refine tz 30 54 ?_;refine tz 31 55 ?_;refine tz 32 56 ?_;refine tz 33 57 ?_;refine tz 34 58 ?_;refine tz 35 59 ?_;refine tz 36 60 ?_;refine tz 37 61 ?_;refine tz 38 62 ?_;refine tz 39 63 ?_;refine tz 40 64 ?_;refine tz 41 65 ?_;refine tz 42 66 ?_;refine tz 43 67 ?_;refine tz 44 68 ?_;refine Zd ?_;clear HSX
   go_wp2_with fail
   go_ret
   exact ⟨rfl,Zb hb1 Qaf⟩
 rw [if_neg (by omega)] at hE
 go_enter func50,ntmps50
 go_wp2_with fail
 (refine Qag ?_;intro w1 hw1)
 have hb1:Below w.heap.size w w1:=by rw [hw1];exact Qaf
 have hX:Blk w1 w.heap.size 26 #[.slice A n c,.slice B m d,.slice C k e]:=by rw [hw1];exact Qaz
 have hY:Blk w1 (w.heap.size+1) 71 #[.int .i64 2,.int .i64 p,.int .i64 z,.int .i64 u,.int .i64 v]:=by rw [hw1];exact Qaz
 clear hw1;obtain ⟨tb,to_,eC,d0,d1,A2,n2,c2,d2,hr2,hcap2⟩:=((HH.out.below hb1).2.2).2 p _ HTT.out;subst eC
 try simp only at d0 d1
 clear d2 hr2 hcap2;have HSX:=Zh (show ∀ V,Below w1.heap.size w1 V→V.cell? ⟨w.heap.size,2,none⟩=some (.slice (some ⟨tb,to_,none⟩) k e)∧V.cell? ⟨w.heap.size+1,1,none⟩=some (.int .i64 p)∧V.cell? ⟨w.heap.size+1,2,none⟩=some (.int .i64 z)∧V.cell? ⟨w.heap.size+1,3,none⟩=some (.int .i64 u)∧V.cell? ⟨tb,to_+p*3,none⟩=some (.int .i64 t.ins)∧V.cell? ⟨tb,to_+p*3+1,none⟩=some (.int .i64 t.outs)∧decide ((p:Int)<0)=false∧decide ((k:Int)≤(p:Int))=false∧decide (k≤p)=false∧decide (z<0)=false∧decide (t.ins≤z)=false∧decide (u<0)=false∧decide (t.outs≤u)=false from fun V hV=>⟨by rw [(hX.below hV hX.lt).cell];rfl,by rw [(hY.below hV hY.lt).cell];rfl,by rw [(hY.below hV hY.lt).cell];rfl,by rw [(hY.below hV hY.lt).cell];rfl,Zc hV (Zn _) d0,Zc hV (Zn _) d1,decide_eq_false (by omega),decide_eq_false (by omega),decide_eq_false (by omega),decide_eq_false (by omega),decide_eq_false (by omega),decide_eq_false (by omega),decide_eq_false (by omega)⟩)
 refine wp_region_held_drew (S:=fun V=>Below w1.heap.size w1 V) (by kernel_rfl) (Zr _ _).drew (fun _=>?_);refine tz 0 24 ?_;refine tz 1 25 ?_;refine tz 2 26 ?_;refine tz 3 27 ?_;refine tz 4 28 ?_;refine tz 5 29 ?_;refine tz 6 30 ?_;refine tz 7 31 ?_;refine tz 8 32 ?_;refine tz 9 33 ?_;refine tz 10 34 ?_;refine tz 11 35 ?_;refine tz 12 36 ?_;refine tz 13 37 ?_;refine tz 14 38 ?_;refine tz 15 39 ?_;refine tz 16 40 ?_;refine tz 17 41 ?_;refine tz 18 42 ?_;refine tz 19 43 ?_;refine tz 20 44 ?_;refine tz 21 45 ?_;refine tz 22 46 ?_;refine tz 23 47 ?_;refine tz 24 48 ?_;refine tz 25 49 ?_;refine tz 26 50 ?_;refine tz 27 51 ?_;refine tz 28 52 ?_;refine tz 29 53 ?_;refine tz 30 54 ?_;refine tz 31 55 ?_;refine tz 32 56 ?_;refine tz 33 57 ?_;refine tz 34 58 ?_;refine tz 35 59 ?_;refine tz 36 60 ?_;refine tz 37 61 ?_;refine tz 38 62 ?_;refine tz 39 63 ?_;refine tz 40 64 ?_;refine tz 41 65 ?_;refine tz 42 66 ?_;refine tz 43 67 ?_;refine tz 44 68 ?_;refine Zd ?_;clear HSX;have x4:w1.cell? ⟨w.heap.size+1,4,none⟩=some (.int .i64 v):=Zq hY;have xl:=hY.lt;have HB2:=Zh (show Below w.heap.size w w1.drew from hb1.drew)
 have HWT:=Zh (Qcr v w1.drew)
 cases hw:wOk v with
 | true =>
  rw [hw,if_pos rfl] at hE;subst hE
  go_wp2_with fail
  with_reducible refine HWT.out.mono ?_
  rintro r w' ⟨rfl,rfl⟩;rw [hw]
  go_wp2_with fail
  go_ret
  exact ⟨rfl,HB2.out⟩
 | false =>
  rw [hw,if_neg (by simp)] at hE;subst hE
  go_wp2_with fail
  with_reducible refine HWT.out.mono ?_
  rintro r w' ⟨rfl,rfl⟩;rw [hw]
  go_wp2_with fail
  go_ret
  exact ⟨rfl,HB2.out⟩
end Go.Proofs.YthoagdpakddbdaaGreatDoor
