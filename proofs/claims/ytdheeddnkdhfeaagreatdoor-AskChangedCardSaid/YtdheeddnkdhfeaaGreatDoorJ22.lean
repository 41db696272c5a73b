/- Parts of the proof: Po, Md, AsG, AsZ, AsW. -/
import Derived.Test.YtdheeddnkdhfeaaGreatDoorJ21
namespace Go.Proofs.YtdheeddnkdhfeaaGreatDoor
open Go.RowKit Go.Proofs.Tryz
attribute [local go_sem ↓] Go.wp_at_zero Go.wp_at_succ
set_option maxHeartbeats 4000000 in
set_option maxRecDepth 20000 in
theorem Qvq (Q:Option Addr)(L cq:Nat) (ls:List (List Int)) (w:World) (h:RdT w Q L ls) (hL:L≤1000000) (hc:∀ l∈ls,l.length≤1000000) :
 Calls prog 90 #[.agg #[.slice Q L cq]] w fun r w'=>∃ Q' cq',r=.returned (.agg #[.slice Q' L cq'])∧RdT (msk w' (fun b=>w.heap.size≤b∧b<w'.heap.size)) Q' L ls∧L≤cq'∧cq'≤9223372036854775807∧Below w.heap.size w w':=by
 have HT:=Zh h;have HC:=Zh hc;clear h hc
 go_enter func90,ntmps90
 go_wp2_with fail
 (refine Qai ?_;intro w1 hw1)
 have hb1:Below w.heap.size w w1:=by rw [hw1];exact Qag
 have hJ:Blk w1 w.heap.size 29 #[.slice Q L cq]:=by rw [hw1];exact Qay
 have hR:Blk w1 (w.heap.size+1) 132 #[.slice none 0 0]:=by rw [hw1];exact Qay
 have hK0:Blk w1 (w.heap.size+2) 132 #[.slice none 0 0]:=by rw [hw1];exact Qay
 clear hw1
 go_loopw [4] (fun i W=>Below w.heap.size w W∧Blk W w.heap.size 29 #[.slice Q L cq]∧Blk W (w.heap.size+1) 132 #[.slice none 0 0]∧∃ (j:Nat) (A3:Option Addr) (c3:Nat) (xs:List Value),j≤L∧i=.int .i64 j∧Blk W (w.heap.size+2) 132 #[.slice A3 j c3]∧RwL W (w.heap.size+3) A3 j c3 xs (ls.take j)) (fun i _=>L-(intOf i).toNat)
 case atStart=>exact ⟨hb1,hJ,hR,0,none,0,[],Nat.zero_le _,rfl,hK0,by simpa using RwL.nil _ _⟩
 case round =>
  clear hb1 hJ hR hK0;obtain ⟨hbl,hJ,hR,j,A3,c3,xs,hj,rfl,hK0,hown⟩:=hrel;have j0:=hJ.cell 0;simp only [Yo,Yn] at j0
  by_cases hlt:j<L
  · obtain ⟨sb,so,Ar,m,cr,l,rfl,hl,hcl,hr,hq1,hq2⟩:=HT.out.at_ hlt
    have HN:=Zh (show ls.take (j+1)=ls.take j ++[l] by
     rw [Yf (Zs hl).1,(Zs hl).2])
    have hm:m≤1000000:=by have:=HC.out l (Zm hl);rw [hr.1] at this;exact this
    have dcl:=Zc hbl (Zn _) hcl;have HSB:=Zh (Qah hcl);have HRR:=Zh (hr.below hbl);have i3:(0:Int)≤(j:Int):=by omega
    have i4:(j:Int)<(L:Int):=by omega
    have hsz:w.heap.size+3≤wr.heap.size:=by have:=hK0.lt;omega
    clear hr hl hcl hq1 hq2
    have HSX:=Zh (show ∀ V,Below (w.heap.size+2) wr V→V.cell? ⟨w.heap.size,0,none⟩=some (.slice (some ⟨sb,so,none⟩) L cq)∧V.cell? ⟨sb,so+j,none⟩=some (.slice Ar m cr) from
     fun V hb=>⟨(hb.cell (by simp only;omega)).trans j0,(hb.cell (by have:=Qah dcl;have:=HSB.out;simp only at this ⊢;omega)).trans dcl⟩)
    go_wp2_with fail
    refine wp_region_held_drew (S:=fun V=>Below (w.heap.size+2) wr V) (by kernel_rfl) (Zr _ _).drew (fun _=>?_);refine tz 0 12 ?_;refine tz 3 15 ?_;refine tz 4 16 ?_;refine tz 5 17 ?_;refine tz 6 18 ?_;refine tz 7 19 ?_;refine wpAnyH_ready (rs:=[1,2]) (by kernel_rfl) (by simp) ?_;refine AllReadyH.cons (o:=_) rfl (fun K hK=>?_) (AllReadyH.cons (o:=_) rfl (fun K hK=>?_) AllReadyH.nil)
    · have k3a:=hK0.cell 0
      simp only [Yo,Yn] at k3a;go_simp;refine hK.out _ _ (Zr _ _).drew (fun _=>?_);clear hK K k3a;refine Zk 2 (fun K hK=>?_);go_simp;refine hK.out _ _ (((Zr _ _).alloc (by omega) _).drew) (fun _=>?_);clear hK K;obtain ⟨W3,hW3⟩:∃ W3,W3=(wr.alloc (.cells #[] 3)).drew:=⟨_,rfl⟩;rw [←hW3];have hbr3:Below wr.heap.size wr W3:=by rw [hW3];exact Qag
      have hown0:Own W3 wr.heap.size 3 1 (some ⟨wr.heap.size,0,none⟩) 0 0 []:=by rw [hW3];exact lit0 (Zn _)
      have hrd0:=(HRR.out.below hbr3).rdsI;have hz3:=hbr3.size;clear hW3;refine Zk 8 (fun K hK=>?_);with_reducible refine Qaj (some 20) rfl rfl (.tmp 14) (.tmp 19) 61 rfl 3 _ 1 8 Qbs underlying61 rfl (by omega) rfl rfl hown0 hrd0 (Qao _) (by omega) (by omega) (by omega) ?_
      intro A2 c2 w4 hrc hg4 _;have hbr4:Below wr.heap.size wr w4:=Zo hbr3 hg4 hown0 (by omega);simp only [Yz,List.nil_append] at hrc;clear hg4 hown0 hrd0;refine hK.out _ _ (hbr4.mono (by omega)) (fun _=>?_);clear hK K;simp only [Act.put,Yi,Yj,Yk,Yz];refine Zk 9 (fun K hK=>?_);go_simp;refine hK.out _ _ (Below.alloc (hbr4.mono (by omega)) (by have:=hbr4.size;omega) _) (fun _=>?_);clear hK K;obtain ⟨W,hW⟩:∃ W,W=w4.alloc (.cells #[.slice A2 m c2] 61):=⟨_,rfl⟩;rw [←hW];have hb4W:Below w4.heap.size w4 W:=by rw [hW];exact Qag
      have hrdW:Rds W 1 (some ⟨w4.heap.size,0,none⟩) 1 [.slice A2 m c2]:=by rw [hW];exact (Blk.new w4 61 #[.slice A2 m c2]).rds rfl
      clear hW;have hbrW:Below wr.heap.size wr W:=Zb hbr4 hb4W;have hcW:=hrc.rds.rdI.below hb4W;have hloW:∀ g,Qac A2=some g→wr.heap.size≤g∧g<W.heap.size:=fun g hg=>⟨(hrc.lt g hg).1,Yu (hrc.lt g hg).2 hb4W.size⟩
      have hcapW:=hrc.cap;have hcapM:=hrc.capMax;have hbrW:Below wr.heap.size wr W:=hbrW;have hyW:=hown.below hbrW;have hbW:Below (w.heap.size+2) wr W:=hbrW.mono (by omega);have hblW:Below w.heap.size w W:=Zb hbl hbrW;have hJW:=hJ.below hbrW hJ.lt;have hRW:=hR.below hbrW hR.lt;have hKW:=hK0.below hbrW hK0.lt
      have hclW:∀ g,Qac A2=some g→w.heap.size+3≤g∧g<W.heap.size∧Qac A3≠some g:=fun g hg=>by
       exact Kba
      have hWsz:w.heap.size+3≤W.heap.size:=by have:=hbrW.size;omega
      exact Kac
    · go_simp
      refine hK.out _ _ (((Zr _ _).alloc (by omega) _).drew) (fun _=>?_);clear hK K;obtain ⟨W3,hW3⟩:∃ W3,W3=(wr.alloc (.cells #[] 3)).drew:=⟨_,rfl⟩;rw [←hW3];have hbr3:Below wr.heap.size wr W3:=by rw [hW3];exact Qag
      have hown0:Own W3 wr.heap.size 3 1 (some ⟨wr.heap.size,0,none⟩) 0 0 []:=by rw [hW3];exact lit0 (Zn _)
      have hrd0:=(HRR.out.below hbr3).rdsI;have hz3:=hbr3.size;clear hW3;refine wpAnyH_ready (rs:=[1,8]) (by kernel_rfl) (by simp) ?_;refine AllReadyH.cons (o:=_) rfl (fun K hK=>?_) (AllReadyH.cons (o:=_) rfl (fun K hK=>?_) AllReadyH.nil)
      · have k3a:W3.cell? ⟨w.heap.size+2,0,none⟩=some (.slice A3 j c3):=(hK0.below hbr3 hK0.lt).cell 0
        go_simp;refine hK.out _ _ (hbr3.mono (by omega)) (fun _=>?_);clear hK K k3a;refine Zk 8 (fun K hK=>?_);with_reducible refine Qaj (some 20) rfl rfl (.tmp 14) (.tmp 19) 61 rfl 3 _ 1 8 Qbs underlying61 rfl (by omega) rfl rfl hown0 hrd0 (Qao _) (by omega) (by omega) (by omega) ?_
        intro A2 c2 w4 hrc hg4 _;have hbr4:Below wr.heap.size wr w4:=Zo hbr3 hg4 hown0 (by omega);simp only [Yz,List.nil_append] at hrc;clear hg4 hown0 hrd0;refine hK.out _ _ (hbr4.mono (by omega)) (fun _=>?_);clear hK K;simp only [Act.put,Yi,Yj,Yk,Yz];refine Zk 9 (fun K hK=>?_);go_simp;refine hK.out _ _ (Below.alloc (hbr4.mono (by omega)) (by have:=hbr4.size;omega) _) (fun _=>?_);clear hK K;obtain ⟨W,hW⟩:∃ W,W=w4.alloc (.cells #[.slice A2 m c2] 61):=⟨_,rfl⟩;rw [←hW];have hb4W:Below w4.heap.size w4 W:=by rw [hW];exact Qag
        have hrdW:Rds W 1 (some ⟨w4.heap.size,0,none⟩) 1 [.slice A2 m c2]:=by rw [hW];exact (Blk.new w4 61 #[.slice A2 m c2]).rds rfl
        clear hW;have hbrW:Below wr.heap.size wr W:=Zb hbr4 hb4W;have hcW:=hrc.rds.rdI.below hb4W;have hloW:∀ g,Qac A2=some g→wr.heap.size≤g∧g<W.heap.size:=fun g hg=>⟨(hrc.lt g hg).1,Yu (hrc.lt g hg).2 hb4W.size⟩
        have hcapW:=hrc.cap;have hcapM:=hrc.capMax;have hbrW:Below wr.heap.size wr W:=hbrW;have hyW:=hown.below hbrW;have hbW:Below (w.heap.size+2) wr W:=hbrW.mono (by omega);have hblW:Below w.heap.size w W:=Zb hbl hbrW;have hJW:=hJ.below hbrW hJ.lt;have hRW:=hR.below hbrW hR.lt;have hKW:=hK0.below hbrW hK0.lt
        have hclW:∀ g,Qac A2=some g→w.heap.size+3≤g∧g<W.heap.size∧Qac A3≠some g:=fun g hg=>by
         exact Kba
        have hWsz:w.heap.size+3≤W.heap.size:=by have:=hbrW.size;omega
        exact Kac
      · with_reducible refine Qaj (some 20) rfl rfl (.tmp 14) (.tmp 19) 61 rfl 3 _ 1 8 Qbs underlying61 rfl (by omega) rfl rfl hown0 hrd0 (Qao _) (by omega) (by omega) (by omega) ?_
        intro A2 c2 w4 hrc hg4 _;have hbr4:Below wr.heap.size wr w4:=Zo hbr3 hg4 hown0 (by omega);simp only [Yz,List.nil_append] at hrc;clear hg4 hown0 hrd0;refine hK.out _ _ (hbr4.mono (by omega)) (fun _=>?_);clear hK K;simp only [Act.put,Yi,Yj,Yk,Yz];refine wpAnyH_ready (rs:=[1,9]) (by kernel_rfl) (by simp) ?_;refine AllReadyH.cons (o:=_) rfl (fun K hK=>?_) (AllReadyH.cons (o:=_) rfl (fun K hK=>?_) AllReadyH.nil)
        · have k3a:w4.cell? ⟨w.heap.size+2,0,none⟩=some (.slice A3 j c3):=(hK0.below hbr4 hK0.lt).cell 0
          go_simp;refine hK.out _ _ (hbr4.mono (by omega)) (fun _=>?_);clear hK K k3a;refine Zk 9 (fun K hK=>?_);go_simp;refine hK.out _ _ (Below.alloc (hbr4.mono (by omega)) (by have:=hbr4.size;omega) _) (fun _=>?_);clear hK K;obtain ⟨W,hW⟩:∃ W,W=w4.alloc (.cells #[.slice A2 m c2] 61):=⟨_,rfl⟩;rw [←hW];have hb4W:Below w4.heap.size w4 W:=by rw [hW];exact Qag
          have hrdW:Rds W 1 (some ⟨w4.heap.size,0,none⟩) 1 [.slice A2 m c2]:=by rw [hW];exact (Blk.new w4 61 #[.slice A2 m c2]).rds rfl
          clear hW;have hbrW:Below wr.heap.size wr W:=Zb hbr4 hb4W;have hcW:=hrc.rds.rdI.below hb4W;have hloW:∀ g,Qac A2=some g→wr.heap.size≤g∧g<W.heap.size:=fun g hg=>⟨(hrc.lt g hg).1,Yu (hrc.lt g hg).2 hb4W.size⟩
          have hcapW:=hrc.cap;have hcapM:=hrc.capMax;have hbrW:Below wr.heap.size wr W:=hbrW;have hyW:=hown.below hbrW;have hbW:Below (w.heap.size+2) wr W:=hbrW.mono (by omega);have hblW:Below w.heap.size w W:=Zb hbl hbrW;have hJW:=hJ.below hbrW hJ.lt;have hRW:=hR.below hbrW hR.lt;have hKW:=hK0.below hbrW hK0.lt
          have hclW:∀ g,Qac A2=some g→w.heap.size+3≤g∧g<W.heap.size∧Qac A3≠some g:=fun g hg=>by
           exact Kba
          have hWsz:w.heap.size+3≤W.heap.size:=by have:=hbrW.size;omega
          exact Kac
        · go_simp
          refine hK.out _ _ (Below.alloc (hbr4.mono (by omega)) (by have:=hbr4.size;omega) _) (fun _=>?_);clear hK K;have k3a:∀ o,(w4.alloc o).cell? ⟨w.heap.size+2,0,none⟩=some (.slice A3 j c3):=fun o=>((hK0.below hbr4 hK0.lt).alloc o).cell 0
          refine Zk 1 (fun K hK=>?_);go_simp;refine hK.out _ _ (Below.alloc (hbr4.mono (by omega)) (by have:=hbr4.size;omega) _) (fun _=>?_);clear hK K;clear k3a;obtain ⟨W,hW⟩:∃ W,W=w4.alloc (.cells #[.slice A2 m c2] 61):=⟨_,rfl⟩;rw [←hW];have hb4W:Below w4.heap.size w4 W:=by rw [hW];exact Qag
          have hrdW:Rds W 1 (some ⟨w4.heap.size,0,none⟩) 1 [.slice A2 m c2]:=by rw [hW];exact (Blk.new w4 61 #[.slice A2 m c2]).rds rfl
          clear hW;have hbrW:Below wr.heap.size wr W:=Zb hbr4 hb4W;have hcW:=hrc.rds.rdI.below hb4W;have hloW:∀ g,Qac A2=some g→wr.heap.size≤g∧g<W.heap.size:=fun g hg=>⟨(hrc.lt g hg).1,Yu (hrc.lt g hg).2 hb4W.size⟩
          have hcapW:=hrc.cap;have hcapM:=hrc.capMax;have hbrW:Below wr.heap.size wr W:=hbrW;have hyW:=hown.below hbrW;have hbW:Below (w.heap.size+2) wr W:=hbrW.mono (by omega);have hblW:Below w.heap.size w W:=Zb hbl hbrW;have hJW:=hJ.below hbrW hJ.lt;have hRW:=hR.below hbrW hR.lt;have hKW:=hK0.below hbrW hK0.lt
          have hclW:∀ g,Qac A2=some g→w.heap.size+3≤g∧g<W.heap.size∧Qac A3≠some g:=fun g hg=>by
           exact Kba
          have hWsz:w.heap.size+3≤W.heap.size:=by have:=hbrW.size;omega
          exact Kac
  · obtain rfl:L=j:=by omega
    rw [Ye (by rw [HT.out.1];exact Zn _)] at hown;have q0:=hK0.cell 0;have r0:=hR.cell 0;simp only [Yo,Yn] at q0 r0;have f0:=hR.frozen 0;have hown2:=hown.far (Qaa wr (w.heap.size+1) 0 (.slice A3 L c3)) (by omega);have HM:=Zh (hown2.rdM (G:=fun b=>w.heap.size≤b∧b<(wr.setCell ⟨w.heap.size+1,0,none⟩ (.slice A3 L c3)).heap.size) (fun b h1 h2=>⟨by omega,h2⟩));have HCP:=Zh (And.intro hown.1.cap hown.1.capMax);clear hown hown2 hR
    go_wp2_with fail
    refine bodyPost_ret (v:=.agg #[.slice A3 L c3]) (by simp [results,results90,go_sem,r0]) rfl ?_;exact ⟨A3,c3,rfl,HM.out,HCP.out.1,HCP.out.2,Qag⟩
set_option maxHeartbeats 1000000 in
theorem Qzc (A B C Q:Option Addr)(n m k c d e L cq:Nat)(N:Qak) (ls:List (List Int)) (w:World) (h:Qbg w A B C n m k N) (hN:Qas N) (hq:RdT w Q L ls) (hP:Qbc N.vs.length ls) :
 Calls prog 40 #[.agg #[.slice A n c,.slice B m d,.slice C k e],.agg #[.slice Q L cq]] w fun r w'=>∃ o,r=.returned (.pointer (some ⟨o,0,none⟩))∧Qfw (msk w' (fun b=>w.heap.size≤b∧b<w'.heap.size)) o N.ar ls∧Below w.heap.size w w':=by
 have HH:=Zh h;have HN:=Zh hN;have HT:=Zh hq;have HP:=Zh hP;have hn4:=hN.lv;have l6:L≤6:=by rw [←hq.1];exact hP.l6
 have HVL:=Zh hn4;clear h hN hq hP hn4
 go_enter func40,ntmps40
 go_wp2_with fail
 (refine Qab ?_;intro w1 hw1)
 have hb1:Below w.heap.size w w1:=by rw [hw1];exact Qag
 have hQ:Blk w1 (w.heap.size+1) 29 #[.slice Q L cq]:=by rw [hw1];exact Qay
 clear hw1;with_reducible refine (Qts A B C n m k c d e N w1 (HH.out.below hb1) HN.out).mono ?_
 rintro r w2 ⟨g,rfl,hG,hb2⟩;have hbw2:=Zb hb1 hb2;have HG:=Zh hG.rd;have y0:=(hQ.below hb2 hQ.lt).cell 0;simp only [Yo,Yn] at y0;clear hG hb2 hQ
 go_wp2_with fail
 with_reducible refine (Qvq Q L cq ls w2 (HT.out.below hbw2) (by omega) (fun l hl=>by have:=(HP.out.lvl l hl).len;have:=HVL.out;omega)).mono ?_
 rintro r w3 ⟨Q3,cq3,rfl,hq3,_,_,hb3⟩;have hbw3:=Zb hbw2 hb3;have HQ3:=Zh (hq3.le (Qbd _ _));have HG3:=Zh (HG.out.below hb3);clear hq3 hb3 y0
 go_wp2_with fail
 with_reducible refine (Qwf g N Q3 L cq3 _ ls w3 HG3.out HN.out HQ3.out HP.out rfl).mono ?_
 rintro r w4 ⟨o,rfl,hO,hb4⟩;have hz3:=hbw3.size;have HO:=Zh (hO.le (Qbe (G':=fun b=>w.heap.size≤b∧b<w4.heap.size) (fun b hb=>⟨by omega,hb.2⟩)));have hbw4:=Zb hbw3 hb4;clear hO hb4
 go_wp2_with fail
 go_ret
 exact ⟨o,rfl,HO.out,hbw4⟩
theorem Rds.rdH {w:World}{A:Option Addr}{n:Nat}{M:List Qmz} (h:Rds w 3 A n (Qqo M)):RdH w A n M :=
 ⟨by have:=h.1;rw [Qtt] at this;omega,fun i x hx=>by
  have hc:=fun (q:Nat) (u:Value) (hq:q<3) (hu:(hpc x)[q]?=some u)=>h.2 (i*3+q) u (by rw [Qrj M i _ hx q hq];exact hu)
  obtain ⟨b,o,e,c0⟩:=hc 0 _ (by omega) rfl;obtain ⟨b1,o1,e1,c1⟩:=hc 1 _ (by omega) rfl;rw [e] at e1
  cases e1
  obtain ⟨b2,o2,e2,c2⟩:=hc 2 _ (by omega) rfl;rw [e] at e2
  cases e2
  exact ⟨b,o,e,c0,by rw [Nat.add_assoc];exact c1,by rw [Nat.add_assoc];exact c2⟩⟩
theorem infoRHop:(Tryz.prog.info? 164).map (fun i=>(i.zero,i.size,i.bytes))=some (some (.agg #[.int .i64 0,.int .i64 0,.int .i64 0]),3,24):=by kernel_rfl
set_option maxHeartbeats 1000000 in
theorem of21_ok (A:Option Addr)(n c:Nat)(M:List Qmz)(w:World)(h:RdH w A n M)(hn:n≤16384) :
 Calls prog 34 #[.slice A n c] w fun e w'=>(∃ A' c',e=.returned (.slice A' n c')∧RdH w' A' n M)∧Below w.heap.size w w':=by
 have HH:=Zh h;clear h
 go_enter func34,ntmps34
 go_wp2_with fail
 go_loopw [3,4] (fun z q W=>∃ (i:Nat) (R:Option Addr) (cr:Nat),i≤n∧q=.int .i64 i∧z=.slice R i cr∧Own W w.heap.size 164 3 R i cr (Qqo (M.take i))∧Below w.heap.size w W) (fun _ q _=>n-(intOf q).toNat)
 case atStart=>exact ⟨0,none,0,Nat.zero_le _,rfl,rfl,Own.nil _ _ _ _,Zr _ _⟩
 case round =>
  obtain ⟨i,R,cr,hi,rfl,rfl,hown,hbl⟩:=hrel;have HO:=Zh hown;have HB:=Zh hbl
  by_cases hlt:i<n
  rotate_left
  · obtain rfl:n=i:=by omega
    clear hown hbl
    go_wp2_with fail
    go_ret
    refine ⟨⟨R,cr,rfl,?_⟩,HB.out⟩;have:=HO.out.rds.rdH
    rwa [Ye (by rw [HH.out.1];exact Zn _)] at this
  obtain ⟨⟨x1,x2,x3⟩,hx⟩:∃ x,M[i]?=some x:=⟨_,Zg (by rw [HH.out.1];exact hlt)⟩;obtain ⟨b,o,rfl,c0,c1,c2⟩:=HH.out.2 i _ hx;simp only at c0 c1 c2;have i1:(i:Int)<(n:Int):=by omega
  have i2:(0:Int)≤(i:Int):=by omega
  have HSX:=Zh (show ∀ V,Below w.heap.size w V→V.cell? ⟨b,o+i*3,none⟩=some (.int .i64 (x1:Int))∧V.cell? ⟨b,o+i*3+1,none⟩=some (.int .i64 (x2:Int))∧V.cell? ⟨b,o+i*3+2,none⟩=some (.int .i64 (x3:Int)) from
   fun V hV=>⟨Zc hV (Zn _) c0,Zc hV (Zn _) c1,Zc hV (Zn _) c2⟩)
  have HTK:=Zh (show M.take (i+1)=M.take i ++[(x1,x2,x3)] by rw [List.take_add_one,hx];rfl)
  clear hown hbl c0 c1 c2 hx;obtain ⟨W5,hW5⟩:∃ W5,W5=(wr.alloc (.cells #[.int .i64 (x1:Int),.int .i64 (x2:Int),.int .i64 (x3:Int)] 164)).drew:=⟨_,rfl⟩;have hb5:Below wr.heap.size wr W5:=by rw [hW5];exact Qag
  have hrd:Rds W5 3 (some ⟨wr.heap.size,0,none⟩) 1 (Qqo [(x1,x2,x3)]):=by rw [hW5];exact (Blk.new wr 164 #[.int .i64 (x1:Int),.int .i64 (x2:Int),.int .i64 (x3:Int)]).drew.rds rfl
  have hown:=HO.out.below hb5;have HB5:=Zh (Zb HB.out hb5);have hsz:w.heap.size≤W5.heap.size:=HB5.out.size;have hone:∀ u∈Qqo [(x1,x2,x3)],u.oneCell'=true:=by rw [Qia];exact Qsk _
  have HW5:=Zh hW5;clear hW5 hb5
  go_wp2_with fail
  refine wp_region_held_drew (S:=fun V=>Below w.heap.size w V) (by kernel_rfl) HB.out.drew (fun _=>?_);refine tz 0 11 ?_;refine tz 1 12 ?_;refine tz 2 13 ?_;refine tz 3 14 ?_;refine tz 4 15 ?_;refine tz 5 16 ?_;refine tz 6 17 ?_;refine tz 7 18 ?_;refine tz 8 19 ?_;refine tz 9 20 ?_;refine tz 10 21 ?_;refine tz 11 22 ?_;refine tz 12 23 ?_;refine tz 13 24 ?_;refine tz 14 25 ?_;refine tz 15 26 ?_;refine tz 16 27 ?_;refine Zk 17 (fun K hK=>?_);go_simp;rw [←HW5.out];refine hK.out _ _ HB5.out (fun _=>?_);clear hK K;refine Zk 18 (fun K hK=>?_);with_reducible refine Qaj (some 29) rfl rfl (.tmp 11) (.tmp 28) 95 rfl 164 _ 3 24 infoRHop underlying95 rfl (by omega) rfl rfl hown hrd hone (by omega) (by omega) hsz ?_
  intro A3 c3 w8 ho8 hg8 hat8;have hb8:=Zo HB5.out hg8 hown hsz;refine hK.out _ _ hb8 (fun _=>?_);clear hK K;simp only [Act.put,Yi,Yj,Yk];refine tz 19 3 ?_;refine Zd ?_;have HB8:=Zh hb8;have HO8:=Zh (show Own w8 w.heap.size 164 3 A3 (i+1) c3 (Qqo (M.take (i+1))) by rw [HTK.out,Qhp];exact ho8)
  clear hown hrd hsz ho8 hg8 hat8 hb8 HSX
  go_wp2_with fail
  go_roundw
  case rel=>exact ⟨i+1,A3,c3,by omega,by go_num,rfl,HO8.out,HB8.out⟩
  case measure=>simp [intOf];omega
def Qtl (w:World)(N:Qak) (ls:List (List Int)) (r:Ending) (w':World):Prop :=
 (∃ (g o:Nat) (CB NC:Nat) (cl:List Int) (F:Nat→Prop),r=.returned (.tuple #[.pointer (some ⟨g,0,none⟩),.pointer (some ⟨o,0,none⟩),.slice (some ⟨CB,0,none⟩) NC NC,.bool true])∧NC=Qca (gatesOf N.ar ls)∧GrO w' F g N∧(∀ b,F b→w.heap.size≤b∧b<w'.heap.size)∧Qfw (msk w' (fun b=>¬F b∧w.heap.size≤b)) o N.ar ls∧RdI (msk w' (fun b=>¬F b)) (some ⟨CB,0,none⟩) NC cl∧Qdh N ls cl)∧Below w.heap.size w w'
set_option maxHeartbeats 1000000 in
theorem Qul (A B C Q:Option Addr)(n m k c d e L cq:Nat)(N:Qak) (ls:List (List Int)) (w:World) (h:Qbg w A B C n m k N) (hok:Qas N) (hq:RdT w Q L ls) (hP:Qbc N.vs.length ls) (hNC:Qca (gatesOf N.ar ls)≤1000000000) :
 Calls prog 11 #[.agg #[.slice A n c,.slice B m d,.slice C k e],.agg #[.slice Q L cq]] w (Qtl w N ls):=by
 unfold Qtl;have HM8:=Zh (fun V (hV:Below w.heap.size w V)=>Qts A B C n m k c d e N V (h.below hV) hok);have HM17:=Zh (fun V (hV:Below w.heap.size w V)=>Qzc A B C Q n m k c d e L cq N ls V (h.below hV) hok (hq.below hV) hP);have HAL:=Zh (fun V g o (hg:Qen V g N) (ho:Qfw V o N.ar ls)=>all_ok V g o N ls hg hok ho hP hNC);have HIA:=Zh (fun (cl:List Int) (h1:Qgl N ls ls.length 0 cl) (h2:cl.length=Qca (gatesOf N.ar ls))=>h1.all h2);obtain ⟨NC,hNCe⟩:∃ NC,NC=Qca (gatesOf N.ar ls):=⟨_,rfl⟩;have HNC:=Zh hNCe;clear h hok hq hP hNC hNCe
 go_enter func11,ntmps11
 go_wp2_with fail
 (refine Qai ?_;intro w1 hw1)
 have HB1:=Zh (show Below w.heap.size w w1 by rw [hw1];exact Qag)
 have HX:=Zh (show Blk w1 w.heap.size 26 #[.slice A n c,.slice B m d,.slice C k e] by rw [hw1];exact Qay)
 have HY:=Zh (show Blk w1 (w.heap.size+1) 29 #[.slice Q L cq] by rw [hw1];exact Qay)
 clear hw1
 have HSX:=Zh (show ∀ V,Below w1.heap.size w1 V→V.cell? ⟨w.heap.size,0,none⟩=some (.slice A n c)∧V.cell? ⟨w.heap.size,1,none⟩=some (.slice B m d)∧V.cell? ⟨w.heap.size,2,none⟩=some (.slice C k e)∧V.cell? ⟨w.heap.size+1,0,none⟩=some (.slice Q L cq) from
  fun V hV=>⟨by rw [(HX.out.below hV HX.out.lt).cell];rfl,by rw [(HX.out.below hV HX.out.lt).cell];rfl,by rw [(HX.out.below hV HX.out.lt).cell];rfl,by rw [(HY.out.below hV HY.out.lt).cell];rfl⟩)
 go_wp2_with fail
 refine wp_region_held_drew (S:=fun V=>Below w1.heap.size w1 V) (by kernel_rfl) (Zr _ _).drew (fun _=>?_);refine tz 0 10 ?_;refine tz 2 12 ?_;refine tz 3 13 ?_;refine Zk 1 (fun K hK=>?_);go_simp;with_reducible refine (HM8.out _ (Zb HB1.out (Zr _ _).drew)).mono ?_
 rintro r w2 ⟨g,rfl,hG,hb2⟩;have hz1:w1.heap.size≤w2.heap.size:=hb2.size;have hb2':Below w1.heap.size w1 w2:=(Zr _ _).drew.trans hb2;have HG2:=Zh hG;go_simp;refine hK.out _ _ hb2' (fun _=>?_);clear hK K hb2 hG;refine Zk 4 (fun K hK=>?_);go_simp;with_reducible refine (HM17.out w2 (Zb HB1.out hb2')).mono ?_
 rintro r w3 ⟨o,rfl,hO,hb3⟩;have hb3':=Zb hb2' hb3;have HG3:=Zh (HG2.out.below hb3);have HO3:=Zh hO;have HZ3:=Zh hb3.size;have HB3:=Zh (Zb HB1.out hb3');go_simp;refine hK.out _ _ hb3' (fun _=>?_);clear hK K hb2' hb3 hb3' hO HG2;refine tz 5 8 ?_;refine tz 6 9 ?_;refine Zd ?_;have HALL:=Zh (HAL.out w3 g o HG3.out.rd (HO3.out.le (Qbd _ _)));clear HSX HM8 HM17 HAL
 go_wp2_with fail
 with_reducible refine HALL.out.mono ?_
 rintro r w4 ⟨CB,cl,rfl,hCB,hCl,hlen,_,hdone,hb4⟩;have HB4:=Zh (Zb HB3.out hb4)
 have HR:=Zh (show GrO w4 (fun b=>w1.heap.size≤b∧b<w2.heap.size) g N∧(∀ b,(fun b=>w1.heap.size≤b∧b<w2.heap.size) b→w.heap.size≤b∧b<w4.heap.size)∧Qfw (msk w4 (fun b=>¬(fun b=>w1.heap.size≤b∧b<w2.heap.size) b∧w.heap.size≤b)) o N.ar ls∧RdI (msk w4 (fun b=>¬(fun b=>w1.heap.size≤b∧b<w2.heap.size) b)) (some ⟨CB,0,none⟩) (Qca (gatesOf N.ar ls)) cl∧Qdh N ls cl from by
  refine ⟨HG3.out.below hb4,fun b hb=>⟨Yx HB1.out.size hb.1,by have:=hb4.size;have:=HZ3.out;omega⟩,?_,?_,HIA.out cl hdone hlen⟩
  · refine HO3.out.le (fun a v hc=>?_)
    obtain ⟨h1,h2⟩:=Qal.1 hc;exact Qal.2 ⟨⟨fun h3=>by have:=h1.1;have:=h3.2;omega,by have:=h1.1;have:=HB1.out.size;omega⟩,Zc hb4 (Zn _) h2⟩
  · refine ⟨hlen,fun i x hx=>⟨CB,0,rfl,?_⟩⟩
    refine Qal.2 ⟨fun h3=>by have h4:CB<w2.heap.size:=h3.2;have:=HZ3.out;omega,?_⟩;rw [hCl.cell,Yz,Yo];exact Qgt hx)
 rw [←HNC.out] at HR ⊢;clear hCB hCl hlen hdone hb4 HALL
 go_wp2_with fail
 refine bodyPost_ret (v:=.tuple #[.pointer (some ⟨g,0,none⟩),.pointer (some ⟨o,0,none⟩),.slice (some ⟨CB,0,none⟩) NC NC,.bool true]) (by simp [results,results11,go_sem]) rfl ?_;exact ⟨⟨g,o,CB,NC,cl,_,rfl,HNC.out,HR.out⟩,HB4.out⟩
section
variable (A B C Q G AE:Option Addr) (n m k c d e L cq cg S ce:Nat) (N:Qak) (ls:List (List Int)) (EL:List Ent) (CA:Option Addr) (NC cC:Nat) (cl:List Int)
structure HopsP (s t:Nat) (M:List Qmz) (atF smF:Nat→Int) (cc:Int):Prop where
 pos:0<M.length
 a0:atF 0=(s:Int)
 an:atF M.length=(t:Int)
 s0:smF 0=0
 sn:smF M.length=cc
 st:∀ (i x1 x2 x3:Nat),M[i]?=some (x1,x2,x3)→(x2:Int)=atF i∧x2<N.ar.length∧x3<N.ar.length∧atF (i+1)=(x3:Int)∧(x1:Int)=lvI N.vs.length ls (toV N x2) (toV N s) (frV N t)∧(0≤smF i∧smF i≤1152921504606846976)∧∀ v,Qox N ls (x1:Int) (x2:Int) (x3:Int) v→(0≤v∧v≤1152921504606846976)∧Qdz (smF i) v=smF (i+1)
set_option maxRecDepth 20000 in
set_option maxHeartbeats 4000000 in
theorem Qvd (s t:Nat)(cc:Int)(A9:Option Addr)(n9 c9:Nat)(M:List Qmz)(atF smF:Nat→Int)(xs xt:Tri)(w:World)(h:Qbg w A B C n m k N)(hok:Qas N)(hP:Qbc N.vs.length ls)(hO:OvD w Q G AE L S N ls EL)(hc:RdI w CA NC cl)(hA:Qdh N ls cl)
 (hM:RdH w A9 n9 M) (hn9:n9≤16384) (hxs:N.ar[s]?=some xs) (hxt:N.ar[t]?=some xt) (hne:s≠t) (hcc:cc≠1152921504606846976) (hH:HopsP N ls s t M atF smF cc) :
 Calls prog 33 #[.agg #[.slice A n c,.slice B m d,.slice C k e],.agg #[.slice A n c,.slice B m d,.slice C k e,.slice Q L cq,.slice G L cg,.slice AE S ce],.slice CA NC cC,.int .i64 s,.int .i64 t,.int .i64 cc,.slice A9 n9 c9] w fun r w'=>r=.returned (.bool true)∧Below w.heap.size w w':=by
 have HNV:=Zh (show N.vs.length=n from h.1.1)
 have HNA:=Zh (show N.ar.length=m from h.2.1.1)
 have hm:m≤16384:=by rw [←h.2.1.1];exact hok.la
 have HPR:=Zh (fun (lv f u:Int) V (hV:Below w.heap.size w V)=>Qrn A B C Q G AE n m k c d e L cq cg S ce (.slice A n c) (.slice B m d) (.slice C k e) N ls EL CA NC cC cl lv f u V (h.below hV) hok hP (hO.below hV) (hc.below hV) hA);have HLE:=Zh (fun (v a b:Int) V (hV:Below w.heap.size w V)=>Qsp A Q n c L cq (.slice B m d) (.slice C k e) (.slice G L cg) (.slice AE S ce) ls v a b V (hO.q.below hV) (by rw [←h.1.1];exact hP));have HTH:=Zh (fun (x:Nat) (hx:x<m) V=>Qbx A B C n m k c d e (x:Int) V (by omega) (by omega));have HMM:=Zh hM;have HNET:=Zh h;have HH:=Zh hH;have HN9:=Zh hM.1;have HXS:=Zh hxs;have HXT:=Zh hxt;have i1:(cc == 1152921504606846976)=false:=by simpa using hcc
 have i2:((s:Int) == (t:Int))=false:=by simp;omega
 clear h hok hP hO hc hA hM hxs hxt hne hH
 go_enter func33,ntmps33
 go_wp2_with fail
 (refine Qai ?_;intro w1 hw1)
 have HB1:=Zh (show Below w.heap.size w w1 by rw [hw1];exact Qag)
 have HX:=Zh (show Blk w1 w.heap.size 26 #[.slice A n c,.slice B m d,.slice C k e] by rw [hw1];exact Qay)
 have HY:=Zh (show Blk w1 (w.heap.size+1) 57 #[.slice A n c,.slice B m d,.slice C k e,.slice Q L cq,.slice G L cg,.slice AE S ce] by rw [hw1];exact Qay)
 clear hw1
 go_loopw [15,16,17] (fun ua us q W=>∃ i:Nat,i≤n9∧q=.int .i64 i∧ua=.int .i64 (atF i)∧us=.int .i64 (smF i)∧Below w1.heap.size w1 W) (fun _ _ q _=>n9-(intOf q).toNat)
 case atStart=>exact ⟨0,Nat.zero_le _,rfl,by rw [HH.out.a0],by rw [HH.out.s0],Zr _ _⟩
 case round =>
  obtain ⟨i,hi,rfl,rfl,rfl,hbl⟩:=hrel;have HBL:=Zh hbl
  by_cases hlt:i<n9
  rotate_left
  · obtain rfl:n9=i:=by omega
    have e1:atF n9=(t:Int):=by rw [←HN9.out];exact HH.out.an
    have e2:smF n9=cc:=by rw [←HN9.out];exact HH.out.sn
    have e3:0<n9:=by rw [←HN9.out];exact HH.out.pos
    have e4:(0:Int)<(n9:Int):=by omega
    rw [e1,e2];clear hbl e1 e2
    go_wp2_with fail
    go_ret
    exact ⟨rfl,Zb HB1.out HBL.out⟩
  obtain ⟨⟨x1,x2,x3⟩,hx⟩:∃ x,M[i]?=some x:=⟨_,Zg (by rw [HN9.out];exact hlt)⟩;obtain ⟨g1,g2,g3,g4,g5,g6,g7⟩:=HH.out.st i x1 x2 x3 hx;have hbw:=Zb HB1.out hbl;obtain ⟨b9,o9,hA9,k0,k1,k2⟩:=(HMM.out.le (Le.below hbw)).2 i _ hx;simp only at k0 k1 k2;obtain ⟨y,hy⟩:∃ y,N.ar[x2]?=some y:=⟨_,Zg g2⟩;have hx2m:x2<m:=by rw [←HNA.out];exact g2
  have hx3m:x3<m:=by rw [←HNA.out];exact g3
  have hsm:s<m:=by rw [←HNA.out];exact (Zs HXS.out).1
  have htm:t<m:=by rw [←HNA.out];exact (Zs HXT.out).1
  obtain ⟨ab,ao,hB,_,d1,_⟩:=(HNET.out.below hbw).2.1.2 x2 y hy;obtain ⟨_,_,e1,_,s1,_⟩:=(HNET.out.below hbw).2.1.2 s xs HXS.out;rw [hB] at e1
  cases e1
  obtain ⟨_,_,e1,t1,_,_⟩:=(HNET.out.below hbw).2.1.2 t xt HXT.out;rw [hB] at e1
  cases e1
  subst hB;rw [←g1];have HAT:=Zh g1;have HA1:=Zh g4;have HSM:=Zh g6;have HAD:=Zh g7;have HLV:=Zh (show (x1:Int)=lvI n ls y.2.1 xs.2.1 xt.1 by rw [g5,(Qbq hy).1,(Qbq HXS.out).1,(Qbq HXT.out).2.1,HNV.out])
  have HTH3:=Zh (fun V=>HTH.out x3 hx3m V);have j1:(i:Int)<(n9:Int):=by omega
  have j2:(0:Int)≤(i:Int):=by omega
  have j3:(x2:Int)<(m:Int):=by omega
  have j4:(0:Int)≤(x2:Int):=by omega
  have j5:(s:Int)<(m:Int):=by omega
  have j6:(0:Int)≤(s:Int):=by omega
  have j7:(t:Int)<(m:Int):=by omega
  have j8:(0:Int)≤(t:Int):=by omega
  have j9:((x2:Int) != (x2:Int))=false:=by simp
  have ja:((x1:Int) != (x1:Int))=false:=by simp
  clear g1 g2 g3 g4 g5 g6 g7 hbl;obtain ⟨sa,hsa⟩:∃ sa,sa=smF i:=⟨_,rfl⟩;rw [←hsa];have HSA:=Zh hsa;clear hsa;subst hA9
  go_wp2_with fail
  (refine Qai ?_;intro w2 hw2)
  have hb2:Below wr.heap.size wr w2:=by rw [hw2];exact Qag
  have HZ:=Zh (show Blk w2 wr.heap.size 164 #[.int .i64 (x1:Int),.int .i64 (x2:Int),.int .i64 (x3:Int)] by rw [hw2];refine Blk.new' _ _ _ ?_;rfl)
  clear hw2;have HBL2:=Zh (Zb HBL.out hb2)
  have HSX:=Zh (show ∀ V,Below w2.heap.size w2 V→V.cell? ⟨w.heap.size,0,none⟩=some (.slice A n c)∧V.cell? ⟨w.heap.size,1,none⟩=some (.slice (some ⟨ab,ao,none⟩) m d)∧V.cell? ⟨w.heap.size,2,none⟩=some (.slice C k e) ∧
   V.cell? ⟨w.heap.size+1,0,none⟩=some (.slice A n c)∧V.cell? ⟨w.heap.size+1,1,none⟩=some (.slice (some ⟨ab,ao,none⟩) m d)∧V.cell? ⟨w.heap.size+1,2,none⟩=some (.slice C k e)∧V.cell? ⟨w.heap.size+1,3,none⟩=some (.slice Q L cq)∧V.cell? ⟨w.heap.size+1,4,none⟩=some (.slice G L cg)∧V.cell? ⟨w.heap.size+1,5,none⟩=some (.slice AE S ce) ∧
   V.cell? ⟨wr.heap.size,0,none⟩=some (.int .i64 (x1:Int))∧V.cell? ⟨wr.heap.size,1,none⟩=some (.int .i64 (x2:Int))∧V.cell? ⟨wr.heap.size,2,none⟩=some (.int .i64 (x3:Int)) ∧
   V.cell? ⟨ab,ao+x2*3+1,none⟩=some (.int .i64 y.2.1)∧V.cell? ⟨ab,ao+s*3+1,none⟩=some (.int .i64 xs.2.1)∧V.cell? ⟨ab,ao+t*3,none⟩=some (.int .i64 xt.1) from fun V hV=>by
   have hV':=Zb HBL2.out hV;have hX':=HX.out.below hV' HX.out.lt;have hY':=HY.out.below hV' HY.out.lt;have hZ':=HZ.out.below hV HZ.out.lt;have hVr:=Zb hb2 hV
   exact ⟨Zq hX',Zq hX',Zq hX',Zq hY',Zq hY',Zq hY',Zq hY',Zq hY',Zq hY',Zq hZ',Zq hZ',Zq hZ',
    Zc hVr (Zn _) d1,Zc hVr (Zn _) s1,Zc hVr (Zn _) t1⟩)
  clear hb2 d1 s1 t1 k0 k1 k2 hbw hx hy
  go_wp2_with fail
  refine wp_region_held_drew (S:=fun V=>Below w2.heap.size w2 V) (by kernel_rfl) (Zr _ _).drew (fun _=>?_);refine tz 0 40 ?_;refine tz 1 41 ?_;refine tz 2 42 ?_;refine tz 3 43 ?_;refine tz 4 44 ?_;refine tz 5 45 ?_;refine tz 6 46 ?_;refine tz 7 47 ?_;refine Zk 8 (fun K hK=>?_);go_simp;with_reducible refine (HTH3.out _).mono ?_
  rintro r w3 ⟨rfl,hb3⟩;have hb3':Below w2.heap.size w2 w3:=(Zr _ _).drew.trans hb3;go_simp;refine hK.out _ _ hb3' (fun _=>?_);clear hK K hb3;refine tz 9 49 ?_;refine tz 10 50 ?_;refine tz 11 51 ?_;refine tz 12 52 ?_;refine tz 13 53 ?_;refine tz 14 54 ?_;refine tz 15 55 ?_;refine tz 16 56 ?_;refine tz 17 57 ?_;refine tz 18 58 ?_;refine tz 19 59 ?_;refine tz 20 60 ?_;refine tz 21 61 ?_;refine tz 22 62 ?_;refine tz 23 63 ?_;refine tz 24 64 ?_;refine tz 25 65 ?_;refine tz 26 66 ?_;refine tz 27 67 ?_;refine tz 28 68 ?_;refine tz 29 69 ?_;refine tz 30 70 ?_;refine tz 31 71 ?_;refine tz 32 72 ?_;refine Zk 33 (fun K hK=>?_);go_simp;have HLEV:=Zh (HLE.out y.2.1 xs.2.1 xt.1 w3 (Zb HB1.out (Zb HBL2.out hb3')));rw [←HLV.out] at HLEV;with_reducible refine HLEV.out.mono ?_
  rintro r w4 ⟨rfl,hb4⟩;have hb4':Below w2.heap.size w2 w4:=Zb hb3' hb4;go_simp;refine hK.out _ _ hb4' (fun _=>?_);clear hK K hb4 HLEV;refine tz 34 74 ?_;refine tz 35 75 ?_;refine Zd ?_;obtain ⟨v0,v1,v2,v3,v4,v5,v6,v7,v8,v9,va,vb,_,_,_⟩:=HSX.out w4 hb4';have HB4:=Zh hb4';clear hb3' hb4' HSX
  go_wp2_with fail
  with_reducible refine (HPR.out x1 x2 x3 w4 (Zb HB1.out (Zb HBL2.out HB4.out))).mono ?_
  unfold PrR;rintro r w5 ⟨⟨v,rfl,hv⟩,hb5⟩;obtain ⟨hv1,hv2⟩:=HAD.out v hv;have HAV:=Zh hv2;have hb5':=Zb HB4.out hb5;have HADD:=Zh (Qgm sa v w5 (by rw [HSA.out];exact HSM.out) hv1);have vb5:=((HZ.out.below hb5' HZ.out.lt).three).2.2;have HB5:=Zh (Zb HBL2.out hb5');clear hv hv1 hv2 hb5 hb5' v0 v1 v2 v3 v4 v5 v6 v7 v8 v9 va vb
  go_wp2_with fail
  with_reducible refine HADD.out.mono ?_
  rintro r w' ⟨rfl,rfl⟩
  go_wp2_with fail
  go_roundw
  case rel=>exact ⟨i+1,by omega,by go_num,by rw [HA1.out],by rw [←HAV.out,HSA.out],HB5.out⟩
  case measure=>simp [intOf];omega
end
theorem Ran:(Tryz.prog.info? 124).map (fun i=>(i.zero,i.size,i.bytes))=some (some (.agg #[.int .i64 0,.int .i64 0,.int .i64 0]),3,24):=by kernel_rfl
theorem infoCA:(Tryz.prog.info? 119).map (fun i=>(i.zero,i.size,i.bytes))=some (some (.agg #[.int .i64 0,.int .i64 0,.int .i64 0]),3,24):=by kernel_rfl
structure ChS (g:Nat) (c3:Value) (w1 W:World) (i j:Nat) (V A:Option Addr) (cv ca:Nat):Prop where
 bel:Below g w1 W
 box:Blk W g 26 #[.slice V i cv,.slice A j ca,c3]
 v:Own W (g+1) 124 3 V i cv (Qap (Qar.vs.take i))
 a:Own W (g+1) 119 3 A j ca (Qap (Qar.ar.take j))
 d:∀ b,Qac V=some b→Qac A≠some b
theorem ChS.below {g i j cv ca:Nat}{c3:Value}{w1 W W':World}{V A:Option Addr}(h:ChS g c3 w1 W i j V A cv ca)(hb:Below W.heap.size W W'):ChS g c3 w1 W' i j V A cv ca :=
 ⟨h.bel.trans (hb.mono (Nat.le_of_lt h.box.lt)),h.box.below hb h.box.lt,h.v.below hb,h.a.below hb,h.d⟩
theorem ChS.pushV {g i j cv ca c':Nat}{c3:Value}{w1 W W':World}{V A V':Option Addr}(h:ChS g c3 w1 W i j V A cv ca) (hg:W.grownBy W' (Qac V)) (ho:Own W' (g+1) 124 3 V' (i+1) c' (Qap (Qar.vs.take (i+1)))) (hat:Qac V'=Qac V∨Qac V'=some W.heap.size) :
 ChS g c3 w1 (W'.setCell ⟨g,0,none⟩ (.slice V' (i+1) c')) (i+1) j V' A c' ca:=by
 have hne:Qac V≠some g:=fun e=>by have:=(h.v.lt g e).1;omega
 have hnA:Qac A≠some g:=fun e=>by have:=(h.a.lt g e).1;omega
 have hnV:Qac V'≠some g:=fun e=>by have:=(ho.lt g e).1;omega
 have hb:=h.box.grown hg hne;refine ⟨(Zo h.bel hg (h.v.mono (Nat.le_succ g)) (Nat.le_of_lt h.box.lt)).setCell (by simp only;omega) _,?_,ho.far (Qaa _ _ _ _) (.inr hnV),(h.a.far hg ?_).far (Qaa _ _ _ _) (.inr hnA),?_⟩
 · have:=hb.set_ 0 (.slice V' (i+1) c')
   simpa using this
 · cases hA:Qac A with
   | none=>exact .inl rfl
   | some b=>exact .inr (fun e=>h.d b e.symm hA)
 · intro b hb hA
   rcases hat with e|e
   · exact h.d b (by rw [←e];exact hb) hA
   · have:=(h.a.lt b hA).2
     rw [e] at hb
     injection hb with hb
     omega
theorem ChS.pushA {g i j cv ca c':Nat}{c3:Value}{w1 W W':World}{V A A':Option Addr}(h:ChS g c3 w1 W i j V A cv ca) (hg:W.grownBy W' (Qac A)) (ho:Own W' (g+1) 119 3 A' (j+1) c' (Qap (Qar.ar.take (j+1)))) (hat:Qac A'=Qac A∨Qac A'=some W.heap.size) :
 ChS g c3 w1 (W'.setCell ⟨g,1,none⟩ (.slice A' (j+1) c')) i (j+1) V A' cv c':=by
 have hne:Qac A≠some g:=fun e=>by have:=(h.a.lt g e).1;omega
 have hnV:Qac V≠some g:=fun e=>by have:=(h.v.lt g e).1;omega
 have hnA:Qac A'≠some g:=fun e=>by have:=(ho.lt g e).1;omega
 have hb:=h.box.grown hg hne;refine ⟨(Zo h.bel hg (h.a.mono (Nat.le_succ g)) (Nat.le_of_lt h.box.lt)).setCell (by simp only;omega) _,?_,(h.v.far hg ?_).far (Qaa _ _ _ _) (.inr hnV),ho.far (Qaa _ _ _ _) (.inr hnA),?_⟩
 · have:=hb.set_ 1 (.slice A' (j+1) c')
   simpa using this
 · cases hV:Qac V with
   | none=>exact .inl rfl
   | some b=>exact .inr (fun e=>h.d b hV e.symm)
 · intro b hV hb
   rcases hat with e|e
   · exact h.d b hV (by rw [←e];exact hb)
   · have:=(h.v.lt b hV).2
     rw [e] at hb
     injection hb with hb
     omega
theorem ch_vs (i:Nat)(h:i<6):∃ ty:Int,Qar.vs[i]?=some ((i:Int),0,ty)∧(i=0→ty=1)∧(i=5→ty=2)∧(i≠0→i≠5→ty=0):=by
 rcases (by omega:i=0∨i=1∨i=2∨i=3∨i=4∨i=5) with rfl|rfl|rfl|rfl|rfl|rfl
 · exact ⟨1,rfl,by simp,by simp,by simp⟩
 · exact ⟨0,rfl,by simp,by simp,by simp⟩
 · exact ⟨0,rfl,by simp,by simp,by simp⟩
 · exact ⟨0,rfl,by simp,by simp,by simp⟩
 · exact ⟨0,rfl,by simp,by simp,by simp⟩
 · exact ⟨2,rfl,by simp,by simp,by simp⟩
theorem ch_ar (j:Nat)(h:j<5):Qar.ar[j]?=some ((j:Int),((j+1:Nat):Int),10):=by
 rcases (by omega:j=0∨j=1∨j=2∨j=3∨j=4) with rfl|rfl|rfl|rfl|rfl <;> rfl
theorem ch_takeV {i:Nat}{x:Tri} (h:Qar.vs[i]?=some x):Qap (Qar.vs.take (i+1))=Qap (Qar.vs.take i) ++Qap [x]:=by rw [List.take_add_one,h,←Qec];rfl
theorem ch_takeA {i:Nat}{x:Tri} (h:Qar.ar[i]?=some x):Qap (Qar.ar.take (i+1))=Qap (Qar.ar.take i) ++Qap [x]:=by rw [List.take_add_one,h,←Qec];rfl
def ChnP (w:World)(r:Ending)(w':World):Prop :=
 (∃ (A B C Q:Option Addr) (a b c q:Nat),r=.returned (.tuple #[.agg #[.slice A 6 a,.slice B 5 b,.slice C 3 c],.agg #[.slice Q 1 q]])∧Qbg w' A B C 6 5 3 Qar∧RdT w' Q 1 Qbf)∧Below w.heap.size w w'
set_option maxRecDepth 20000 in
set_option maxHeartbeats 4000000 in
theorem chain_ok (w:World):Calls prog 31 #[] w (ChnP w):=by
 unfold ChnP
 go_enter func31,ntmps31
 go_wp2_with fail
 (refine Qai ?_;intro w1 hw1)
 have HB1:=Zh (show Below w.heap.size w w1 by rw [hw1];exact Qag)
 have HZ1:=Zh (show w1.heap.size=w.heap.size+1+1+1+1+1+1 by rw [hw1];simp)
 have HC0:=Zh (show Blk w1 w.heap.size 26 #[.slice none 0 0,.slice none 0 0,.slice none 0 0] by rw [hw1];exact Qay)
 have HC1:=Zh (show Blk w1 (w.heap.size+1) 29 #[.slice none 0 0] by rw [hw1];exact Qay)
 have HC2:=Zh (show Blk w1 (w.heap.size+1+1) 2 #[.int .i64 1] by rw [hw1];exact Qay)
 have HC4:=Zh (show Blk w1 (w.heap.size+1+1+1+1) 122 #[.int .i64 1,.int .i64 1,.slice (some ⟨w.heap.size+1+1,0,none⟩) 1 1,.int .i64 0,.int .i64 1,.slice none 0 0,.int .i64 1,.int .i64 0,.slice none 0 0] by rw [hw1];exact Qay)
 have hN:Blk w1 (w.heap.size+1+1+1+1+1) 26 #[.slice none 0 0,.slice none 0 0,.slice (some ⟨w.heap.size+1+1+1+1,0,none⟩) 3 3]:=by rw [hw1];exact Qay
 have HST:=Zh (show ChS (w.heap.size+1+1+1+1+1) (.slice (some ⟨w.heap.size+1+1+1+1,0,none⟩) 3 3) w1 w1 0 0 none none 0 0 from ⟨Zr _ _,hN,Own.nil _ _ _ _,Own.nil _ _ _ _,fun b hb=>by cases hb⟩)
 clear hw1 hN
 go_loopw [4] (fun q W=>∃ (i j:Nat) (V A:Option Addr) (cv ca:Nat),i≤6∧j=i-1∧q=.int .i64 i∧ChS (w.heap.size+1+1+1+1+1) (.slice (some ⟨w.heap.size+1+1+1+1,0,none⟩) 3 3) w1 W i j V A cv ca) (fun q _=>7-(intOf q).toNat)
 case atStart=>exact ⟨0,0,none,none,0,0,by omega,rfl,rfl,HST.out⟩
 case round =>
  obtain ⟨i,j,V,A,cv,ca,hi,hj,rfl,hch⟩:=hrel;have HCH:=Zh hch
  by_cases hlt:i<6
  rotate_left
  · obtain rfl:i=6:=by omega
    obtain rfl:j=5:=by omega
    clear hi hj hlt;have hbx:=hch.box;have x0:wr.cell? ⟨w.heap.size+1+1+1+1+1,0,none⟩=some (.slice V 6 cv):=Zq hbx;have x1:wr.cell? ⟨w.heap.size+1+1+1+1+1,1,none⟩=some (.slice A 5 ca):=Zq hbx;have x2:wr.cell? ⟨w.heap.size+1+1+1+1+1,2,none⟩=some (.slice (some ⟨w.heap.size+1+1+1+1,0,none⟩) 3 3):=Zq hbx;have hz1:=HZ1.out;have hzr:w.heap.size+1+1+1+1+1<wr.heap.size:=hbx.lt
    have hC0:Blk wr w.heap.size 26 #[.slice none 0 0,.slice none 0 0,.slice none 0 0]:=HC0.out.below hch.bel (by omega);have hC1:Blk wr (w.heap.size+1) 29 #[.slice none 0 0]:=HC1.out.below hch.bel (by omega);have hC2:=HC2.out.below hch.bel (by omega);have hC4:=HC4.out.below hch.bel (by omega);obtain ⟨W6,hW6⟩:∃ W6,W6=(((wr.setCell ⟨w.heap.size,0,none⟩ (.slice V 6 cv)).setCell ⟨w.heap.size,1,none⟩ (.slice A 5 ca)).setCell ⟨w.heap.size,2,none⟩ (.slice (some ⟨w.heap.size+1+1+1+1,0,none⟩) 3 3)).setCell ⟨w.heap.size+1,0,none⟩ (.slice (some ⟨wr.heap.size+1,0,none⟩) 1 1):=⟨_,rfl⟩;have hz6:W6.heap.size=wr.heap.size:=by rw [hW6];simp [World.setCell]
    have HC0':=Zh (show Blk W6 w.heap.size 26 #[.slice V 6 cv,.slice A 5 ca,.slice (some ⟨w.heap.size+1+1+1+1,0,none⟩) 3 3] by
     have h0:=((hC0.set_ 0 (.slice V 6 cv)).set_ 1 (.slice A 5 ca)).set_ 2 (.slice (some ⟨w.heap.size+1+1+1+1,0,none⟩) 3 3);rw [hW6];refine Blk.far_ (by simpa using h0) ?_ _;omega)
    have HC1':=Zh (show Blk W6 (w.heap.size+1) 29 #[.slice (some ⟨wr.heap.size+1,0,none⟩) 1 1] by
     have h1:Blk (((wr.setCell ⟨w.heap.size,0,none⟩ (.slice V 6 cv)).setCell ⟨w.heap.size,1,none⟩ (.slice A 5 ca)).setCell ⟨w.heap.size,2,none⟩ (.slice (some ⟨w.heap.size+1+1+1+1,0,none⟩) 3 3)) (w.heap.size+1) 29 #[.slice none 0 0]:=Blk.far_ (Blk.far_ (Blk.far_ hC1 (by omega) _) (by omega) _) (by omega) _;rw [hW6]
     simpa using h1.set_ 0 (.slice (some ⟨wr.heap.size+1,0,none⟩) 1 1))
    have HC2':=Zh (show Blk W6 (w.heap.size+1+1) 2 #[.int .i64 1] by rw [hW6];exact Blk.far_ (Blk.far_ (Blk.far_ (Blk.far_ hC2 (by omega) _) (by omega) _) (by omega) _) (by omega) _)
    have HC4':=Zh (show Blk W6 (w.heap.size+1+1+1+1) 122 #[.int .i64 1,.int .i64 1,.slice (some ⟨w.heap.size+1+1,0,none⟩) 1 1,.int .i64 0,.int .i64 1,.slice none 0 0,.int .i64 1,.int .i64 0,.slice none 0 0] by rw [hW6];exact Blk.far_ (Blk.far_ (Blk.far_ (Blk.far_ hC4 (by omega) _) (by omega) _) (by omega) _) (by omega) _)
    have HV:=Zh (show Rd3 W6 V 6 Qar.vs by
     have h1:=hch.v;have:=((((h1.far (Qaa _ w.heap.size 0 (.slice V 6 cv)) (.inr (h1.ne (by omega)))).far (Qaa _ w.heap.size 1 (.slice A 5 ca)) (.inr (h1.ne (by omega)))).far (Qaa _ w.heap.size 2 (.slice (some ⟨w.heap.size+1+1+1+1,0,none⟩) 3 3)) (.inr (h1.ne (by omega)))).far (Qaa _ (w.heap.size+1) 0 (.slice (some ⟨wr.heap.size+1,0,none⟩) 1 1)) (.inr (h1.ne (by omega)))).rds.rd3;rw [hW6];exact this)
    have HA:=Zh (show Rd3 W6 A 5 Qar.ar by
     have h1:=hch.a;have:=((((h1.far (Qaa _ w.heap.size 0 (.slice V 6 cv)) (.inr (h1.ne (by omega)))).far (Qaa _ w.heap.size 1 (.slice A 5 ca)) (.inr (h1.ne (by omega)))).far (Qaa _ w.heap.size 2 (.slice (some ⟨w.heap.size+1+1+1+1,0,none⟩) 3 3)) (.inr (h1.ne (by omega)))).far (Qaa _ (w.heap.size+1) 0 (.slice (some ⟨wr.heap.size+1,0,none⟩) 1 1)) (.inr (h1.ne (by omega)))).rds.rd3;rw [hW6];exact this)
    have hbr:Below w.heap.size w wr:=HB1.out.trans (hch.bel.mono (by omega));have HB6:=Zh (show Below w.heap.size w W6 by rw [hW6];exact ((((hbr.setCell (by simp only;omega) _).setCell (by simp only;omega) _).setCell (by simp only;omega) _).setCell (by simp only;omega) _))
    have HW6:=Zh hW6;have HZ6:=Zh hz6;obtain ⟨k0,k1,k2⟩:=hC0.three;have fk0:=hC0.frozen 0;have fk1:=hC0.frozen 1;have fk2:=hC0.frozen 2;have p0:=hC1.cell 0;simp only [Yo,Yn] at p0;have fp0:=hC1.frozen 0;have kl:=hC0.lt;have pl:=hC1.lt;have xl:=hbx.lt;clear hch hbx hC0 hC1 hC2 hC4 hW6 hz6 hbr
    go_wp2_with fail
    rw [←HW6.out]
    (refine Qfb ?_;intro Wf hWf)
    have hbf:Below W6.heap.size W6 Wf:=by rw [hWf];exact Qag
    have h1:Blk Wf wr.heap.size 3 #[.int .i64 0,.int .i64 0,.int .i64 1,.int .i64 1,.int .i64 2,.int .i64 2]:=by rw [hWf,←HZ6.out];exact Qay
    have h2:Blk Wf (wr.heap.size+1) 61 #[.slice (some ⟨wr.heap.size,0,none⟩) 6 6]:=by rw [hWf,←HZ6.out];exact Qay
    have hB0:=HC0'.out.below hbf HC0'.out.lt;have hB1:=HC1'.out.below hbf HC1'.out.lt;have h3:=HC2'.out.below hbf HC2'.out.lt;have h4:=HC4'.out.below hbf HC4'.out.lt;obtain ⟨c0,c1,c2⟩:=hB0.three;have d0:=hB1.cell 0;simp only [Yo,Yn] at d0
    have HVf:=Zh (show Qbg Wf V A (some ⟨w.heap.size+1+1+1+1,0,none⟩) 6 5 3 Qar from by
     refine ⟨HV.out.below hbf,HA.out.below hbf,rfl,fun i t ht=>⟨w.heap.size+1+1+1+1,0,rfl,?_⟩⟩
     match i,ht with
     | 0,ht =>
      cases ht
      exact ⟨Zq h4,Zq h4,some ⟨w.heap.size+1+1,0,none⟩,1,1,Zq h4,Rds.rdI (l:=[1]) (h3.rds rfl),Zn _,by omega⟩
     | 1,ht =>
      cases ht
      exact ⟨Zq h4,Zq h4,none,0,0,Zq h4,⟨rfl,fun j x hx=>by simp at hx⟩,Zn _,by omega⟩
     | 2,ht =>
      cases ht
      exact ⟨Zq h4,Zq h4,none,0,0,Zq h4,⟨rfl,fun j x hx=>by simp at hx⟩,Zn _,by omega⟩
     | k+3,ht=>simp [Qar] at ht)
    have HTf:=Zh (show RdT Wf (some ⟨wr.heap.size+1,0,none⟩) 1 Qbf from by
     refine ⟨rfl,fun i l hl=>?_⟩
     match i,hl with
     | 0,hl =>
      cases hl
      exact ⟨wr.heap.size+1,0,some ⟨wr.heap.size,0,none⟩,6,6,rfl,Zq h2,Rds.rdI (l:=[0,0,1,1,2,2]) (h1.rds rfl),Zn _,by omega⟩
     | k+1,hl=>simp [Qbf] at hl)
    have HBf:=Zh (Zb HB6.out hbf);refine bodyPost_ret (v:=.tuple #[.agg #[.slice V 6 cv,.slice A 5 ca,.slice (some ⟨w.heap.size+1+1+1+1,0,none⟩) 3 3],.agg #[.slice (some ⟨wr.heap.size+1,0,none⟩) 1 1]]) (by simp [results,results31,go_sem,c0,c1,c2,d0]) rfl ?_;exact ⟨⟨_,_,_,_,_,_,_,_,rfl,HVf.out,HTf.out⟩,HBf.out⟩
  have HJ:=Zh hj;obtain ⟨ty,hty,t0,t5,tm⟩:=ch_vs i hlt;have HTY:=Zh hty;have HTV:=Zh (ch_takeV hty);clear hty
  by_cases hi0:i=0
  · obtain rfl:=t0 hi0
    have hj0:j=0:=by omega
    have e0:((i:Int) == 0)=true:=by simp [hi0]
    have e5:((i:Int) == 5)=false:=by simp [hi0]
    have e6:¬(0:Int)<(i:Int):=by omega
    have HI0:=Zh hi0;have HJ0:=Zh hj0;clear t0 t5 tm hi0 hj0 hj;obtain ⟨x0,x1,x2⟩:=hch.box.three;have xl:=hch.box.lt;obtain ⟨W2,hW2⟩:∃ W2,W2=wr.alloc (.cells #[.int .i64 (i:Int),.int .i64 0,.int .i64 (1:Int)] 124):=⟨_,rfl⟩;have hb2:Below wr.heap.size wr W2:=by rw [hW2];exact Qag
    obtain ⟨W3,hW3⟩:∃ W3,W3=W2.alloc (.cells #[.int .i64 (i:Int),.int .i64 0,.int .i64 (1:Int)] 124):=⟨_,rfl⟩;have hb3:Below W2.heap.size W2 W3:=by rw [hW3];exact Qag
    have hb23:Below wr.heap.size wr W3:=Zb hb2 hb3;have HC3:=Zh (hch.below hb23);have hz2:W2.heap.size=wr.heap.size+1:=by rw [hW2];simp
    have hrd:Rds W3 3 (some ⟨wr.heap.size+1,0,none⟩) 1 (Qap [((i:Int),0,(1:Int))]):=by rw [hW3,←hz2];exact (Blk.new W2 124 #[.int .i64 (i:Int),.int .i64 0,.int .i64 (1:Int)]).rds rfl
    have hown:=HC3.out.v;have hsz:w.heap.size+1+1+1+1+1+1≤W3.heap.size:=HC3.out.box.lt;have HW3:=Zh hW3;have HW2:=Zh hW2;clear hch hb2 hb3 hb23 hW3 hW2 hz2
    go_wp2_with (at_builtin;rw [←HW2.out,←HW3.out];with_reducible refine Qan rfl (.tmp 26) (.tmp 28) 22 rfl 124 _ 3 24 Ran underlying22 rfl (by omega) rfl rfl hown hrd (Qaq _) (by omega) (by omega) hsz ?_)
    intro V' c' w4 ho4 hg4 hat4;have hB4:=HC3.out.box.grown hg4 (hown.ne (by omega));clear x0 x1 x2 xl;obtain ⟨x0,x1,x2⟩:=hB4.three;have fx0:=hB4.frozen 0;have fx1:=hB4.frozen 1;have HS4:=Zh (HC3.out.pushV hg4 (by rw [HTV.out];exact ho4) hat4);obtain ⟨W4,hW4⟩:∃ W4,W4=w4.setCell ⟨w.heap.size+1+1+1+1+1,0,none⟩ (.slice V' (i+1) c'):=⟨_,rfl⟩;rw [←hW4] at HS4;have HW4:=Zh hW4;clear hown hrd hsz ho4 hg4 hat4 hB4 HC3 hW4
    go_wp2_with fail
    rw [←HW4.out]
    go_roundw
    case rel=>exact ⟨i+1,j,V',A,c',ca,by omega,by have:=HI0.out;have:=HJ0.out;omega,by go_num,HS4.out⟩
    case measure=>simp [intOf];omega
  have e0:((i:Int) == 0)=false:=by simpa using hi0
  have e6:(0:Int)<(i:Int):=by omega
  have eij:(i:Int)-1=(j:Int):=by omega
  have wl:IntKind.i64.wrap (j:Int)=(j:Int):=IntWalk.i64_in _ (by omega);have hAR:=ch_ar j (by omega);rw [show ((j+1:Nat):Int)=(i:Int) by omega] at hAR
  have HTA:=Zh (ch_takeA hAR);clear hAR t0 hj
  by_cases hi5:i=5
  · obtain rfl:=t5 hi5
    have e5:((i:Int) == 5)=true:=by simp [hi5]
    clear t5 tm hi5;obtain ⟨x0,x1,x2⟩:=hch.box.three;have xl:=hch.box.lt;obtain ⟨W2,hW2⟩:∃ W2,W2=wr.alloc (.cells #[.int .i64 (i:Int),.int .i64 0,.int .i64 (2:Int)] 124):=⟨_,rfl⟩;have hb2:Below wr.heap.size wr W2:=by rw [hW2];exact Qag
    obtain ⟨W3,hW3⟩:∃ W3,W3=W2.alloc (.cells #[.int .i64 (i:Int),.int .i64 0,.int .i64 (2:Int)] 124):=⟨_,rfl⟩;have hb3:Below W2.heap.size W2 W3:=by rw [hW3];exact Qag
    have hb23:Below wr.heap.size wr W3:=Zb hb2 hb3;have HC3:=Zh (hch.below hb23);have hz2:W2.heap.size=wr.heap.size+1:=by rw [hW2];simp
    have hrd:Rds W3 3 (some ⟨wr.heap.size+1,0,none⟩) 1 (Qap [((i:Int),0,(2:Int))]):=by rw [hW3,←hz2];exact (Blk.new W2 124 #[.int .i64 (i:Int),.int .i64 0,.int .i64 (2:Int)]).rds rfl
    have hown:=HC3.out.v;have hsz:w.heap.size+1+1+1+1+1+1≤W3.heap.size:=HC3.out.box.lt;have HW3:=Zh hW3;have HW2:=Zh hW2;clear hch hb2 hb3 hb23 hW3 hW2 hz2
    go_wp2_with (at_builtin;rw [←HW2.out,←HW3.out];with_reducible refine Qan rfl (.tmp 26) (.tmp 28) 22 rfl 124 _ 3 24 Ran underlying22 rfl (by omega) rfl rfl hown hrd (Qaq _) (by omega) (by omega) hsz ?_)
    intro V' c' w4 ho4 hg4 hat4;have hB4:=HC3.out.box.grown hg4 (hown.ne (by omega));clear x0 x1 x2 xl;obtain ⟨x0,x1,x2⟩:=hB4.three;have fx0:=hB4.frozen 0;have fx1:=hB4.frozen 1;have HS4:=Zh (HC3.out.pushV hg4 (by rw [HTV.out];exact ho4) hat4);obtain ⟨W4,hW4⟩:∃ W4,W4=w4.setCell ⟨w.heap.size+1+1+1+1+1,0,none⟩ (.slice V' (i+1) c'):=⟨_,rfl⟩;rw [←hW4] at HS4;have HW4:=Zh hW4;clear hown hrd hsz ho4 hg4 hat4 hB4 HC3 hW4;have x4l:w.heap.size+1+1+1+1+1<w4.heap.size:=by have:=HS4.out.box.lt;rw [HW4.out] at this;simpa [World.setCell] using this
    have hz4:W4.heap.size=w4.heap.size:=by rw [HW4.out];simp [World.setCell]
    obtain ⟨W5,hW5⟩:∃ W5,W5=W4.alloc (.cells #[.int .i64 (j:Int),.int .i64 (i:Int),.int .i64 10] 119):=⟨_,rfl⟩;have hb5:Below W4.heap.size W4 W5:=by rw [hW5];exact Qag
    have HC5:=Zh (HS4.out.below hb5);have hrd:Rds W5 3 (some ⟨w4.heap.size,0,none⟩) 1 (Qap [((j:Int),(i:Int),10)]):=by rw [hW5,←hz4];exact (Blk.new W4 119 #[.int .i64 (j:Int),.int .i64 (i:Int),.int .i64 10]).rds rfl
    exact Kau
  · obtain rfl:=tm hi0 hi5
    have e5:((i:Int) == 5)=false:=by simp;omega
    clear t5 tm;obtain ⟨x0,x1,x2⟩:=hch.box.three;have xl:=hch.box.lt;obtain ⟨W2,hW2⟩:∃ W2,W2=wr.alloc (.cells #[.int .i64 (i:Int),.int .i64 0,.int .i64 (0:Int)] 124):=⟨_,rfl⟩;have hb2:Below wr.heap.size wr W2:=by rw [hW2];exact Qag
    obtain ⟨W3,hW3⟩:∃ W3,W3=W2.alloc (.cells #[.int .i64 (i:Int),.int .i64 0,.int .i64 (0:Int)] 124):=⟨_,rfl⟩;have hb3:Below W2.heap.size W2 W3:=by rw [hW3];exact Qag
    have hb23:Below wr.heap.size wr W3:=Zb hb2 hb3;have HC3:=Zh (hch.below hb23);have hz2:W2.heap.size=wr.heap.size+1:=by rw [hW2];simp
    have hrd:Rds W3 3 (some ⟨wr.heap.size+1,0,none⟩) 1 (Qap [((i:Int),0,(0:Int))]):=by rw [hW3,←hz2];exact (Blk.new W2 124 #[.int .i64 (i:Int),.int .i64 0,.int .i64 (0:Int)]).rds rfl
    have hown:=HC3.out.v;have hsz:w.heap.size+1+1+1+1+1+1≤W3.heap.size:=HC3.out.box.lt;have HW3:=Zh hW3;have HW2:=Zh hW2;clear hch hb2 hb3 hb23 hW3 hW2 hz2
    go_wp2_with (at_builtin;rw [←HW2.out,←HW3.out];with_reducible refine Qan rfl (.tmp 26) (.tmp 28) 22 rfl 124 _ 3 24 Ran underlying22 rfl (by omega) rfl rfl hown hrd (Qaq _) (by omega) (by omega) hsz ?_)
    intro V' c' w4 ho4 hg4 hat4;have hB4:=HC3.out.box.grown hg4 (hown.ne (by omega));clear x0 x1 x2 xl;obtain ⟨x0,x1,x2⟩:=hB4.three;have fx0:=hB4.frozen 0;have fx1:=hB4.frozen 1;have HS4:=Zh (HC3.out.pushV hg4 (by rw [HTV.out];exact ho4) hat4);obtain ⟨W4,hW4⟩:∃ W4,W4=w4.setCell ⟨w.heap.size+1+1+1+1+1,0,none⟩ (.slice V' (i+1) c'):=⟨_,rfl⟩;rw [←hW4] at HS4;have HW4:=Zh hW4;clear hown hrd hsz ho4 hg4 hat4 hB4 HC3 hW4;have x4l:w.heap.size+1+1+1+1+1<w4.heap.size:=by have:=HS4.out.box.lt;rw [HW4.out] at this;simpa [World.setCell] using this
    have hz4:W4.heap.size=w4.heap.size:=by rw [HW4.out];simp [World.setCell]
    obtain ⟨W5,hW5⟩:∃ W5,W5=W4.alloc (.cells #[.int .i64 (j:Int),.int .i64 (i:Int),.int .i64 10] 119):=⟨_,rfl⟩;have hb5:Below W4.heap.size W4 W5:=by rw [hW5];exact Qag
    have HC5:=Zh (HS4.out.below hb5);have hrd:Rds W5 3 (some ⟨w4.heap.size,0,none⟩) 1 (Qap [((j:Int),(i:Int),10)]):=by rw [hW5,←hz4];exact (Blk.new W4 119 #[.int .i64 (j:Int),.int .i64 (i:Int),.int .i64 10]).rds rfl
    exact Kau
end Go.Proofs.YtdheeddnkdhfeaaGreatDoor
