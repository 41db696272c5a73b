/- Parts of the proof: Po, Md, AsG, AsW, As. -/
import Derived.Test.YtdheeddnkdhfeaaGreatDoorH20
namespace Go.Proofs.YtdheeddnkdhfeaaGreatDoor
open Go.RowKit Go.Proofs.Tryz
attribute [local go_sem ↓] Go.wp_at_zero Go.wp_at_succ
set_option maxHeartbeats 4000000 in
set_option maxRecDepth 20000 in
theorem Qvh (Q:Option Addr)(L cq:Nat) (ls:List (List Int)) (w:World) (h:RdT w Q L ls) (hL:L≤1000000) (hc:∀ l∈ls,l.length≤1000000) :
 Calls prog 90 #[.agg #[.slice Q L cq]] w fun r w'=>∃ Q' cq',r=.returned (.agg #[.slice Q' L cq'])∧RdT (msk w' (fun b=>w.heap.size≤b∧b<w'.heap.size)) Q' L ls∧L≤cq'∧cq'≤9223372036854775807∧Below w.heap.size w w':=by
 have HT:=Zh h;have HC:=Zh hc;clear h hc;go_enter func90,ntmps90
 go_wp2_with fail
 (refine Qaj ?_;intro w1 hw1);have hb1:Below w.heap.size w w1:=by rw [hw1];exact Qah
 have hJ:Blk w1 w.heap.size 29 #[.slice Q L cq]:=by rw [hw1];exact Qbi
 have hR:Blk w1 (w.heap.size+1) 132 #[.slice none 0 0]:=by rw [hw1];exact Qbi
 have hK0:Blk w1 (w.heap.size+2) 132 #[.slice none 0 0]:=by rw [hw1];exact Qbi
 clear hw1;go_loopw [4] (fun i W=>Below w.heap.size w W∧Blk W w.heap.size 29 #[.slice Q L cq]∧Blk W (w.heap.size+1) 132 #[.slice none 0 0]∧∃ (j:Nat) (A3:Option Addr) (c3:Nat) (xs:List Value),j≤L∧i=.int .i64 j∧Blk W (w.heap.size+2) 132 #[.slice A3 j c3]∧RwL W (w.heap.size+3) A3 j c3 xs (ls.take j)) (fun i _=>L-(intOf i).toNat)
 case atStart=>exact ⟨hb1,hJ,hR,0,none,0,[],Nat.zero_le _,rfl,hK0,by simpa using RwL.nil _ _⟩
 case round =>
  clear hb1 hJ hR hK0;obtain ⟨hbl,hJ,hR,j,A3,c3,xs,hj,rfl,hK0,hown⟩:=hrel;have j0:=hJ.cell 0;simp only [Yo,Yn] at j0;by_cases hlt:j<L
  · obtain ⟨sb,so,Ar,m,cr,l,rfl,hl,hcl,hr,hq1,hq2⟩:=HT.out.at_ hlt
    have HN:=Zh (show ls.take (j+1)=ls.take j ++[l] by
     rw [Yf (Zs hl).1,(Zs hl).2])
    (have hm:m≤1000000:=by have:=HC.out l (Zm hl);rw [hr.1] at this;exact this);(have dcl:=Zc hbl (Zn _) hcl;have HSB:=Zh (Qak hcl);have HRR:=Zh (hr.below hbl);have i3:0≤(j:Int):=by omega);(have i4:(j:Int)<L:=by omega);(have hsz:w.heap.size+3≤wr.heap.size:=by have:=hK0.lt;omega);clear hr hl hcl hq1 hq2
    have HSX:=Zh (show ∀ V,Below (w.heap.size+2) wr V→V.cell? ⟨w.heap.size,0,none⟩=some (.slice (some ⟨sb,so,none⟩) L cq)∧V.cell? ⟨sb,so+j,none⟩=some (.slice Ar m cr) from
     fun V hb=>⟨(hb.cell (by simp only;omega)).trans j0,(hb.cell (by have:=Qak dcl;have:=HSB.out;simp only at this ⊢;omega)).trans dcl⟩)
    (go_wp2_with fail);refine wp_region_held_drew (S:=fun V=>Below (w.heap.size+2) wr V) (by kernel_rfl) (Zr _ _).drew (fun _=>?_);refine tz 0 12 ?_;refine tzd 3 15 ?_;refine tz 7 19 ?_;refine wpAnyH_ready (rs:=[1,2]) (by kernel_rfl) (by simp) ?_;refine AllReadyH.cons (o:=_) rfl (fun K hK=>?_) (AllReadyH.cons (o:=_) rfl (fun K hK=>?_) AllReadyH.nil);{have k3a:=hK0.cell 0;(simp only [Yo,Yn] at k3a;go_simp;refine hK.out _ _ (Zr _ _).drew (fun _=>?_);clear hK K k3a;refine Zk 2 (fun K hK=>?_);go_simp;refine hK.out _ _ (((Zr _ _).alloc (by omega) _).drew) (fun _=>?_);clear hK K;obtain ⟨W3,hW3⟩:=Zx ((wr.alloc (.cells #[] 3)).drew);rw [←hW3];have hbr3:Below wr.heap.size wr W3:=by rw [hW3];exact Qah);(have hown0:Own W3 wr.heap.size 3 1 (some ⟨wr.heap.size,0,none⟩) 0 0 []:=by rw [hW3];exact lit0 (Zn _));(have hrd0:=(HRR.out.below hbr3).rdsI;have hz3:=hbr3.size;clear hW3;refine Zk 8 (fun K hK=>?_);with_reducible refine Qax (some 20) rfl rfl (.tmp 14) (.tmp 19) 61 rfl 3 _ 1 8 Qbo underlying61 rfl (by omega) rfl rfl hown0 hrd0 (Qao _) (by omega) (by omega) (by omega) ?_);(intro A2 c2 w4 hrc hg4 _;have hbr4:Below wr.heap.size wr w4:=Zo hbr3 hg4 hown0 (by omega);simp only [Yz,List.nil_append] at hrc;clear hg4 hown0 hrd0;refine hK.out _ _ (hbr4.mono (by omega)) (fun _=>?_);clear hK K;simp only [Act.put,Yi,Yj,Yk,Yz];refine Zk 9 (fun K hK=>?_);go_simp;refine hK.out _ _ (Below.alloc (hbr4.mono (by omega)) (by have:=hbr4.size;omega) _) (fun _=>?_);clear hK K;obtain ⟨W,hW⟩:=Zx (w4.alloc (.cells #[.slice A2 m c2] 61));rw [←hW];have hb4W:Below w4.heap.size w4 W:=by rw [hW];exact Qah);(have hrdW:Rds W 1 (some ⟨w4.heap.size,0,none⟩) 1 [.slice A2 m c2]:=by rw [hW];exact (Blk.new w4 61 #[.slice A2 m c2]).rds rfl);(clear hW;have hbrW:Below wr.heap.size wr W:=Zb hbr4 hb4W;have hcW:=hrc.rds.rdI.below hb4W;have hloW:∀ g,Qab A2=some g→wr.heap.size≤g∧g<W.heap.size:=fun g hg=>⟨(hrc.lt g hg).1,Yu (hrc.lt g hg).2 hb4W.size⟩);have hcapW:=hrc.cap;have hcapM:=hrc.capMax;have hbrW:Below wr.heap.size wr W:=hbrW;have hyW:=hown.below hbrW;have hbW:Below (w.heap.size+2) wr W:=hbrW.mono (by omega);have hblW:Below w.heap.size w W:=Zb hbl hbrW;have hJW:=hJ.below hbrW hJ.lt;have hRW:=hR.below hbrW hR.lt;have hKW:=hK0.below hbrW hK0.lt;have hclW:∀ g,Qab A2=some g→w.heap.size+3≤g∧g<W.heap.size∧Qab A3≠some g:=fun g hg=>by{exact Kar};(have hWsz:w.heap.size+3≤W.heap.size:=by have:=hbrW.size;omega);exact Kab};{go_simp;(refine hK.out _ _ (((Zr _ _).alloc (by omega) _).drew) (fun _=>?_);clear hK K;obtain ⟨W3,hW3⟩:=Zx ((wr.alloc (.cells #[] 3)).drew);rw [←hW3];have hbr3:Below wr.heap.size wr W3:=by rw [hW3];exact Qah);(have hown0:Own W3 wr.heap.size 3 1 (some ⟨wr.heap.size,0,none⟩) 0 0 []:=by rw [hW3];exact lit0 (Zn _));have hrd0:=(HRR.out.below hbr3).rdsI;have hz3:=hbr3.size;clear hW3;refine wpAnyH_ready (rs:=[1,8]) (by kernel_rfl) (by simp) ?_;refine AllReadyH.cons (o:=_) rfl (fun K hK=>?_) (AllReadyH.cons (o:=_) rfl (fun K hK=>?_) AllReadyH.nil);{have k3a:W3.cell? ⟨w.heap.size+2,0,none⟩=some (.slice A3 j c3):=(hK0.below hbr3 hK0.lt).cell 0;(go_simp;refine hK.out _ _ (hbr3.mono (by omega)) (fun _=>?_);clear hK K k3a;refine Zk 8 (fun K hK=>?_);with_reducible refine Qax (some 20) rfl rfl (.tmp 14) (.tmp 19) 61 rfl 3 _ 1 8 Qbo underlying61 rfl (by omega) rfl rfl hown0 hrd0 (Qao _) (by omega) (by omega) (by omega) ?_);(intro A2 c2 w4 hrc hg4 _;have hbr4:Below wr.heap.size wr w4:=Zo hbr3 hg4 hown0 (by omega);simp only [Yz,List.nil_append] at hrc;clear hg4 hown0 hrd0;refine hK.out _ _ (hbr4.mono (by omega)) (fun _=>?_);clear hK K;simp only [Act.put,Yi,Yj,Yk,Yz];refine Zk 9 (fun K hK=>?_);go_simp;refine hK.out _ _ (Below.alloc (hbr4.mono (by omega)) (by have:=hbr4.size;omega) _) (fun _=>?_);clear hK K;obtain ⟨W,hW⟩:=Zx (w4.alloc (.cells #[.slice A2 m c2] 61));rw [←hW];have hb4W:Below w4.heap.size w4 W:=by rw [hW];exact Qah);(have hrdW:Rds W 1 (some ⟨w4.heap.size,0,none⟩) 1 [.slice A2 m c2]:=by rw [hW];exact (Blk.new w4 61 #[.slice A2 m c2]).rds rfl);(clear hW;have hbrW:Below wr.heap.size wr W:=Zb hbr4 hb4W;have hcW:=hrc.rds.rdI.below hb4W;have hloW:∀ g,Qab A2=some g→wr.heap.size≤g∧g<W.heap.size:=fun g hg=>⟨(hrc.lt g hg).1,Yu (hrc.lt g hg).2 hb4W.size⟩);have hcapW:=hrc.cap;have hcapM:=hrc.capMax;have hbrW:Below wr.heap.size wr W:=hbrW;have hyW:=hown.below hbrW;have hbW:Below (w.heap.size+2) wr W:=hbrW.mono (by omega);have hblW:Below w.heap.size w W:=Zb hbl hbrW;have hJW:=hJ.below hbrW hJ.lt;have hRW:=hR.below hbrW hR.lt;have hKW:=hK0.below hbrW hK0.lt;have hclW:∀ g,Qab A2=some g→w.heap.size+3≤g∧g<W.heap.size∧Qab A3≠some g:=fun g hg=>by{exact Kar};(have hWsz:w.heap.size+3≤W.heap.size:=by have:=hbrW.size;omega);exact Kab};{(with_reducible refine Qax (some 20) rfl rfl (.tmp 14) (.tmp 19) 61 rfl 3 _ 1 8 Qbo underlying61 rfl (by omega) rfl rfl hown0 hrd0 (Qao _) (by omega) (by omega) (by omega) ?_);intro A2 c2 w4 hrc hg4 _;have hbr4:Below wr.heap.size wr w4:=Zo hbr3 hg4 hown0 (by omega);simp only [Yz,List.nil_append] at hrc;clear hg4 hown0 hrd0;refine hK.out _ _ (hbr4.mono (by omega)) (fun _=>?_);clear hK K;simp only [Act.put,Yi,Yj,Yk,Yz];refine wpAnyH_ready (rs:=[1,9]) (by kernel_rfl) (by simp) ?_;refine AllReadyH.cons (o:=_) rfl (fun K hK=>?_) (AllReadyH.cons (o:=_) rfl (fun K hK=>?_) AllReadyH.nil);{have k3a:w4.cell? ⟨w.heap.size+2,0,none⟩=some (.slice A3 j c3):=(hK0.below hbr4 hK0.lt).cell 0;(go_simp;refine hK.out _ _ (hbr4.mono (by omega)) (fun _=>?_);clear hK K k3a;refine Zk 9 (fun K hK=>?_);go_simp;refine hK.out _ _ (Below.alloc (hbr4.mono (by omega)) (by have:=hbr4.size;omega) _) (fun _=>?_);clear hK K;obtain ⟨W,hW⟩:=Zx (w4.alloc (.cells #[.slice A2 m c2] 61));rw [←hW];have hb4W:Below w4.heap.size w4 W:=by rw [hW];exact Qah);(have hrdW:Rds W 1 (some ⟨w4.heap.size,0,none⟩) 1 [.slice A2 m c2]:=by rw [hW];exact (Blk.new w4 61 #[.slice A2 m c2]).rds rfl);(clear hW;have hbrW:Below wr.heap.size wr W:=Zb hbr4 hb4W;have hcW:=hrc.rds.rdI.below hb4W;have hloW:∀ g,Qab A2=some g→wr.heap.size≤g∧g<W.heap.size:=fun g hg=>⟨(hrc.lt g hg).1,Yu (hrc.lt g hg).2 hb4W.size⟩);have hcapW:=hrc.cap;have hcapM:=hrc.capMax;have hbrW:Below wr.heap.size wr W:=hbrW;have hyW:=hown.below hbrW;have hbW:Below (w.heap.size+2) wr W:=hbrW.mono (by omega);have hblW:Below w.heap.size w W:=Zb hbl hbrW;have hJW:=hJ.below hbrW hJ.lt;have hRW:=hR.below hbrW hR.lt;have hKW:=hK0.below hbrW hK0.lt;have hclW:∀ g,Qab A2=some g→w.heap.size+3≤g∧g<W.heap.size∧Qab A3≠some g:=fun g hg=>by{exact Kar};(have hWsz:w.heap.size+3≤W.heap.size:=by have:=hbrW.size;omega);exact Kab};{go_simp;(refine hK.out _ _ (Below.alloc (hbr4.mono (by omega)) (by have:=hbr4.size;omega) _) (fun _=>?_);clear hK K;have k3a:∀ o,(w4.alloc o).cell? ⟨w.heap.size+2,0,none⟩=some (.slice A3 j c3):=fun o=>((hK0.below hbr4 hK0.lt).alloc o).cell 0);(refine Zk 1 (fun K hK=>?_);go_simp;refine hK.out _ _ (Below.alloc (hbr4.mono (by omega)) (by have:=hbr4.size;omega) _) (fun _=>?_);clear hK K;clear k3a;obtain ⟨W,hW⟩:=Zx (w4.alloc (.cells #[.slice A2 m c2] 61));rw [←hW];have hb4W:Below w4.heap.size w4 W:=by rw [hW];exact Qah);(have hrdW:Rds W 1 (some ⟨w4.heap.size,0,none⟩) 1 [.slice A2 m c2]:=by rw [hW];exact (Blk.new w4 61 #[.slice A2 m c2]).rds rfl);(clear hW;have hbrW:Below wr.heap.size wr W:=Zb hbr4 hb4W;have hcW:=hrc.rds.rdI.below hb4W;have hloW:∀ g,Qab A2=some g→wr.heap.size≤g∧g<W.heap.size:=fun g hg=>⟨(hrc.lt g hg).1,Yu (hrc.lt g hg).2 hb4W.size⟩);have hcapW:=hrc.cap;have hcapM:=hrc.capMax;have hbrW:Below wr.heap.size wr W:=hbrW;have hyW:=hown.below hbrW;have hbW:Below (w.heap.size+2) wr W:=hbrW.mono (by omega);have hblW:Below w.heap.size w W:=Zb hbl hbrW;have hJW:=hJ.below hbrW hJ.lt;have hRW:=hR.below hbrW hR.lt;have hKW:=hK0.below hbrW hK0.lt;have hclW:∀ g,Qab A2=some g→w.heap.size+3≤g∧g<W.heap.size∧Qab A3≠some g:=fun g hg=>by{exact Kar};(have hWsz:w.heap.size+3≤W.heap.size:=by have:=hbrW.size;omega);exact Kab}}}
  {(obtain rfl:L=j:=by omega);rw [Ye (by rw [HT.out.1];exact Zn _)] at hown;have q0:=hK0.cell 0;have r0:=hR.cell 0;simp only [Yo,Yn] at q0 r0;have f0:=hR.frozen 0;have hown2:=hown.far (Qad wr (w.heap.size+1) 0 (.slice A3 L c3)) (by omega);have HM:=Zh (hown2.rdM (G:=fun b=>w.heap.size≤b∧b<(wr.setCell ⟨w.heap.size+1,0,none⟩ (.slice A3 L c3)).heap.size) (fun b h1 h2=>⟨by omega,h2⟩));have HCP:=Zh (And.intro hown.1.cap hown.1.capMax);clear hown hown2 hR;(go_wp2_with fail);refine bodyPost_ret (v:=.agg #[.slice A3 L c3]) (by simp [results,results90,go_sem,r0]) rfl ?_;exact ⟨A3,c3,rfl,HM.out,HCP.out.1,HCP.out.2,Qah⟩}
set_option maxHeartbeats 1000000 in
theorem Qxy (A B C Q:Option Addr)(n m k c d e L cq:Nat)(N:Qam) (ls:List (List Int)) (w:World) (h:Qbz w A B C n m k N) (hN:Qap N) (hq:RdT w Q L ls) (hP:Qat N.vs.length ls) :
 Calls prog 40 #[.agg #[.slice A n c,.slice B m d,.slice C k e],.agg #[.slice Q L cq]] w fun r w'=>∃ o,r=.returned (.pointer (some ⟨o,0,none⟩))∧Qgh (msk w' (fun b=>w.heap.size≤b∧b<w'.heap.size)) o N.ar ls∧Below w.heap.size w w':=by
 have HH:=Zh h;have HN:=Zh hN;have HT:=Zh hq;have HP:=Zh hP;have hn4:=hN.lv;have l6:L≤6:=by rw [←hq.1];exact hP.l6
 have HVL:=Zh hn4;clear h hN hq hP hn4;go_enter func40,ntmps40
 go_wp2_with fail
 (refine Qac ?_;intro w1 hw1);have hb1:Below w.heap.size w w1:=by rw [hw1];exact Qah
 have hQ:Blk w1 (w.heap.size+1) 29 #[.slice Q L cq]:=by rw [hw1];exact Qbi
 clear hw1;with_reducible refine (Qtm A B C n m k c d e N w1 (HH.out.below hb1) HN.out).mono ?_
 rintro r w2 ⟨g,rfl,hG,hb2⟩;have hbw2:=Zb hb1 hb2;have HG:=Zh hG.rd;have y0:=(hQ.below hb2 hQ.lt).cell 0;simp only [Yo,Yn] at y0;clear hG hb2 hQ;go_wp2_with fail
 with_reducible refine (Qvh Q L cq ls w2 (HT.out.below hbw2) (by omega) (fun l hl=>by have:=(HP.out.lvl l hl).len;have:=HVL.out;omega)).mono ?_
 rintro r w3 ⟨Q3,cq3,rfl,hq3,_,_,hb3⟩;have hbw3:=Zb hbw2 hb3;have HQ3:=Zh (hq3.le (Qau _ _));have HG3:=Zh (HG.out.below hb3);clear hq3 hb3 y0;go_wp2_with fail
 with_reducible refine (Qvg g N Q3 L cq3 _ ls w3 HG3.out HN.out HQ3.out HP.out rfl).mono ?_
 rintro r w4 ⟨o,rfl,hO,hb4⟩;have hz3:=hbw3.size;have HO:=Zh (hO.le (Qbe (G':=fun b=>w.heap.size≤b∧b<w4.heap.size) (fun b hb=>⟨by omega,hb.2⟩)));have hbw4:=Zb hbw3 hb4;clear hO hb4;go_wp2_with fail
 go_ret;exact ⟨o,rfl,HO.out,hbw4⟩
def Qsn (w:World)(N:Qam) (ls:List (List Int)) (r:Ending) (w':World):Prop :=
 (∃ (g o:Nat) (CB NC:Nat) (cl:List Int) (F:Nat→Prop),r=.returned (.tuple #[.pointer (some ⟨g,0,none⟩),.pointer (some ⟨o,0,none⟩),.slice (some ⟨CB,0,none⟩) NC NC,.bool true])∧NC=Qbw (Qae N.ar ls)∧GrO w' F g N∧(∀ b,F b→w.heap.size≤b∧b<w'.heap.size)∧Qgh (msk w' (fun b=>¬F b∧w.heap.size≤b)) o N.ar ls∧RdI (msk w' (fun b=>¬F b)) (some ⟨CB,0,none⟩) NC cl∧Qct N ls cl)∧Below w.heap.size w w'
set_option maxHeartbeats 1000000 in
theorem Qtr (A B C Q:Option Addr)(n m k c d e L cq:Nat)(N:Qam) (ls:List (List Int)) (w:World) (h:Qbz w A B C n m k N) (hok:Qap N) (hq:RdT w Q L ls) (hP:Qat N.vs.length ls) (hNC:Qbw (Qae N.ar ls)≤1000000000) :
 Calls prog 11 #[.agg #[.slice A n c,.slice B m d,.slice C k e],.agg #[.slice Q L cq]] w (Qsn w N ls):=by
 unfold Qsn;have HM8:=Zh (fun V (hV:Below w.heap.size w V)=>Qtm A B C n m k c d e N V (h.below hV) hok);have HM17:=Zh (fun V (hV:Below w.heap.size w V)=>Qxy A B C Q n m k c d e L cq N ls V (h.below hV) hok (hq.below hV) hP);have HAL:=Zh (fun V g o (hg:Qfh V g N) (ho:Qgh V o N.ar ls)=>all_ok V g o N ls hg hok ho hP hNC);have HIA:=Zh (fun (cl:List Int) (h1:Qgi N ls ls.length 0 cl) (h2:cl.length=Qbw (Qae N.ar ls))=>h1.all h2);obtain ⟨NC,hNCe⟩:=Zx (Qbw (Qae N.ar ls));have HNC:=Zh hNCe;clear h hok hq hP hNC hNCe;go_enter func11,ntmps11
 go_wp2_with fail
 (refine Qaj ?_;intro w1 hw1);have HB1:=Zh (show Below w.heap.size w w1 by rw [hw1];exact Qah);have HX:=Zh (show Blk w1 w.heap.size 26 #[.slice A n c,.slice B m d,.slice C k e] by rw [hw1];exact Qbi);have HY:=Zh (show Blk w1 (w.heap.size+1) 29 #[.slice Q L cq] by rw [hw1];exact Qbi);clear hw1
 have HSX:=Zh (show ∀ V,Below w1.heap.size w1 V→V.cell? ⟨w.heap.size,0,none⟩=some (.slice A n c)∧V.cell? ⟨w.heap.size,1,none⟩=some (.slice B m d)∧V.cell? ⟨w.heap.size,2,none⟩=some (.slice C k e)∧V.cell? ⟨w.heap.size+1,0,none⟩=some (.slice Q L cq) from
  fun V hV=>⟨by rw [(HX.out.below hV HX.out.lt).cell];rfl,by rw [(HX.out.below hV HX.out.lt).cell];rfl,by rw [(HX.out.below hV HX.out.lt).cell];rfl,by rw [(HY.out.below hV HY.out.lt).cell];rfl⟩)
 go_wp2_with fail
 refine wp_region_held_drew (S:=fun V=>Below w1.heap.size w1 V) (by kernel_rfl) (Zr _ _).drew (fun _=>?_);refine tz 0 10 ?_;refine tzb 2 12 ?_;refine Zk 1 (fun K hK=>?_);go_simp;with_reducible refine (HM8.out _ (Zb HB1.out (Zr _ _).drew)).mono ?_
 rintro r w2 ⟨g,rfl,hG,hb2⟩;have hz1:w1.heap.size≤w2.heap.size:=hb2.size;have hb2':Below w1.heap.size w1 w2:=(Zr _ _).drew.trans hb2;have HG2:=Zh hG;go_simp;refine hK.out _ _ hb2' (fun _=>?_);clear hK K hb2 hG;refine Zk 4 (fun K hK=>?_);go_simp;with_reducible refine (HM17.out w2 (Zb HB1.out hb2')).mono ?_
 rintro r w3 ⟨o,rfl,hO,hb3⟩;have hb3':=Zb hb2' hb3;have HG3:=Zh (HG2.out.below hb3);have HO3:=Zh hO;have HZ3:=Zh hb3.size;have HB3:=Zh (Zb HB1.out hb3');go_simp;refine hK.out _ _ hb3' (fun _=>?_);clear hK K hb2' hb3 hb3' hO HG2;refine tzb 5 8 ?_;refine Zd ?_;have HALL:=Zh (HAL.out w3 g o HG3.out.rd (HO3.out.le (Qau _ _)));clear HSX HM8 HM17 HAL;go_wp2_with fail
 with_reducible refine HALL.out.mono ?_
 rintro r w4 ⟨CB,cl,rfl,hCB,hCl,hlen,_,hdone,hb4⟩;have HB4:=Zh (Zb HB3.out hb4)
 have HR:=Zh (show GrO w4 (fun b=>w1.heap.size≤b∧b<w2.heap.size) g N∧(∀ b,(fun b=>w1.heap.size≤b∧b<w2.heap.size) b→w.heap.size≤b∧b<w4.heap.size)∧Qgh (msk w4 (fun b=>¬(fun b=>w1.heap.size≤b∧b<w2.heap.size) b∧w.heap.size≤b)) o N.ar ls∧RdI (msk w4 (fun b=>¬(fun b=>w1.heap.size≤b∧b<w2.heap.size) b)) (some ⟨CB,0,none⟩) (Qbw (Qae N.ar ls)) cl∧Qct N ls cl from by
  refine ⟨HG3.out.below hb4,fun b hb=>⟨Yx HB1.out.size hb.1,by have:=hb4.size;have:=HZ3.out;omega⟩,?_,?_,HIA.out cl hdone hlen⟩
  · refine HO3.out.le (fun a v hc=>?_)
    obtain ⟨h1,h2⟩:=Qbb.1 hc;exact Qbb.2 ⟨⟨fun h3=>by have:=h1.1;have:=h3.2;omega,by have:=h1.1;have:=HB1.out.size;omega⟩,Zc hb4 (Zn _) h2⟩
  · refine ⟨hlen,fun i x hx=>⟨CB,0,rfl,?_⟩⟩
    refine Qbb.2 ⟨fun h3=>by have h4:CB<w2.heap.size:=h3.2;have:=HZ3.out;omega,?_⟩;rw [hCl.cell,Yz,Yo];exact Qim hx)
 rw [←HNC.out] at HR ⊢;clear hCB hCl hlen hdone hb4 HALL;go_wp2_with fail
 refine bodyPost_ret (v:=.tuple #[.pointer (some ⟨g,0,none⟩),.pointer (some ⟨o,0,none⟩),.slice (some ⟨CB,0,none⟩) NC NC,.bool true]) (by simp [results,results11,go_sem]) rfl ?_;exact ⟨⟨g,o,CB,NC,cl,_,rfl,HNC.out,HR.out⟩,HB4.out⟩
theorem Qxo:(Tryz.prog.info? 124).map (fun i=>(i.zero,i.size,i.bytes))=some (some (.agg #[.int .i64 0,.int .i64 0,.int .i64 0]),3,24):=by kernel_rfl
theorem infoCA:(Tryz.prog.info? 119).map (fun i=>(i.zero,i.size,i.bytes))=some (some (.agg #[.int .i64 0,.int .i64 0,.int .i64 0]),3,24):=by kernel_rfl
structure ChS (g:Nat) (c3:Value) (w1 W:World) (i j:Nat) (V A:Option Addr) (cv ca:Nat):Prop where
 bel:Below g w1 W
 box:Blk W g 26 #[.slice V i cv,.slice A j ca,c3]
 v:Own W (g+1) 124 3 V i cv (Qaw (Qbc.vs.take i))
 a:Own W (g+1) 119 3 A j ca (Qaw (Qbc.ar.take j))
 d:∀ b,Qab V=some b→Qab A≠some b
theorem ChS.below {g i j cv ca:Nat}{c3:Value}{w1 W W':World}{V A:Option Addr}(h:ChS g c3 w1 W i j V A cv ca)(hb:Below W.heap.size W W'):ChS g c3 w1 W' i j V A cv ca :=
 ⟨h.bel.trans (hb.mono (Nat.le_of_lt h.box.lt)),h.box.below hb h.box.lt,h.v.below hb,h.a.below hb,h.d⟩
theorem ChS.pushV {g i j cv ca c':Nat}{c3:Value}{w1 W W':World}{V A V':Option Addr}(h:ChS g c3 w1 W i j V A cv ca) (hg:W.grownBy W' (Qab V)) (ho:Own W' (g+1) 124 3 V' (i+1) c' (Qaw (Qbc.vs.take (i+1)))) (hat:Qab V'=Qab V∨Qab V'=some W.heap.size) :
 ChS g c3 w1 (W'.setCell ⟨g,0,none⟩ (.slice V' (i+1) c')) (i+1) j V' A c' ca:=by
 have hne:Qab V≠some g:=fun e=>by have:=(h.v.lt g e).1;omega
 have hnA:Qab A≠some g:=fun e=>by have:=(h.a.lt g e).1;omega
 have hnV:Qab V'≠some g:=fun e=>by have:=(ho.lt g e).1;omega
 have hb:=h.box.grown hg hne;refine ⟨(Zo h.bel hg (h.v.mono (Nat.le_succ g)) (Nat.le_of_lt h.box.lt)).setCell (by simp only;omega) _,?_,ho.far (Qad _ _ _ _) (.inr hnV),(h.a.far hg ?_).far (Qad _ _ _ _) (.inr hnA),?_⟩;{have:=hb.set_ 0 (.slice V' (i+1) c');simpa using this}
 · cases hA:Qab A with
   | none=>exact .inl rfl
   | some b=>exact .inr (fun e=>h.d b e.symm hA)
 {intro b hb hA;(rcases hat with e|e);{exact h.d b (by rw [←e];exact hb) hA};{have:=(h.a.lt b hA).2;rw [e] at hb;(injection hb with hb);omega}}
theorem ChS.pushA {g i j cv ca c':Nat}{c3:Value}{w1 W W':World}{V A A':Option Addr}(h:ChS g c3 w1 W i j V A cv ca) (hg:W.grownBy W' (Qab A)) (ho:Own W' (g+1) 119 3 A' (j+1) c' (Qaw (Qbc.ar.take (j+1)))) (hat:Qab A'=Qab A∨Qab A'=some W.heap.size) :
 ChS g c3 w1 (W'.setCell ⟨g,1,none⟩ (.slice A' (j+1) c')) i (j+1) V A' cv c':=by
 have hne:Qab A≠some g:=fun e=>by have:=(h.a.lt g e).1;omega
 have hnV:Qab V≠some g:=fun e=>by have:=(h.v.lt g e).1;omega
 have hnA:Qab A'≠some g:=fun e=>by have:=(ho.lt g e).1;omega
 have hb:=h.box.grown hg hne;refine ⟨(Zo h.bel hg (h.a.mono (Nat.le_succ g)) (Nat.le_of_lt h.box.lt)).setCell (by simp only;omega) _,?_,(h.v.far hg ?_).far (Qad _ _ _ _) (.inr hnV),ho.far (Qad _ _ _ _) (.inr hnA),?_⟩;{have:=hb.set_ 1 (.slice A' (j+1) c');simpa using this}
 · cases hV:Qab V with
   | none=>exact .inl rfl
   | some b=>exact .inr (fun e=>h.d b hV e.symm)
 {intro b hV hb;(rcases hat with e|e);{exact h.d b hV (by rw [←e];exact hb)};{have:=(h.v.lt b hV).2;rw [e] at hb;(injection hb with hb);omega}}
theorem ch_vs (i:Nat)(h:i<6):∃ ty:Int,Qbc.vs[i]?=some ((i:Int),0,ty)∧(i=0→ty=1)∧(i=5→ty=2)∧(i≠0→i≠5→ty=0):=by
 rcases (by omega:i=0∨i=1∨i=2∨i=3∨i=4∨i=5) with rfl|rfl|rfl|rfl|rfl|rfl
 {exact ⟨1,rfl,by simp,by simp,by simp⟩};{exact ⟨0,rfl,by simp,by simp,by simp⟩};{exact ⟨0,rfl,by simp,by simp,by simp⟩};{exact ⟨0,rfl,by simp,by simp,by simp⟩};{exact ⟨0,rfl,by simp,by simp,by simp⟩};{exact ⟨2,rfl,by simp,by simp,by simp⟩}
theorem ch_ar (j:Nat)(h:j<5):Qbc.ar[j]?=some ((j:Int),((j+1:Nat):Int),10):=by rcases (by omega:j=0∨j=1∨j=2∨j=3∨j=4) with rfl|rfl|rfl|rfl|rfl <;> rfl
theorem ch_takeV {i:Nat}{x:Tri} (h:Qbc.vs[i]?=some x):Qaw (Qbc.vs.take (i+1))=Qaw (Qbc.vs.take i) ++Qaw [x]:=by rw [List.take_add_one,h,←Qei];rfl
theorem ch_takeA {i:Nat}{x:Tri} (h:Qbc.ar[i]?=some x):Qaw (Qbc.ar.take (i+1))=Qaw (Qbc.ar.take i) ++Qaw [x]:=by rw [List.take_add_one,h,←Qei];rfl
def ChnP (w:World)(r:Ending)(w':World):Prop :=
 (∃ (A B C Q:Option Addr) (a b c q:Nat),r=.returned (.tuple #[.agg #[.slice A 6 a,.slice B 5 b,.slice C 3 c],.agg #[.slice Q 1 q]])∧Qbz w' A B C 6 5 3 Qbc∧RdT w' Q 1 Qdj)∧Below w.heap.size w w'
set_option maxRecDepth 20000 in
set_option maxHeartbeats 4000000 in
theorem chain_ok (w:World):Calls prog 31 #[] w (ChnP w):=by
 unfold ChnP;go_enter func31,ntmps31
 go_wp2_with fail
 (refine Qaj ?_;intro w1 hw1);have HB1:=Zh (show Below w.heap.size w w1 by rw [hw1];exact Qah);have HZ1:=Zh (show w1.heap.size=w.heap.size+1+1+1+1+1+1 by rw [hw1];simp);have HC0:=Zh (show Blk w1 w.heap.size 26 #[.slice none 0 0,.slice none 0 0,.slice none 0 0] by rw [hw1];exact Qbi);have HC1:=Zh (show Blk w1 (w.heap.size+1) 29 #[.slice none 0 0] by rw [hw1];exact Qbi);have HC2:=Zh (show Blk w1 (w.heap.size+1+1) 2 #[.int .i64 1] by rw [hw1];exact Qbi);have HC4:=Zh (show Blk w1 (w.heap.size+1+1+1+1) 122 #[.int .i64 1,.int .i64 1,.slice (some ⟨w.heap.size+1+1,0,none⟩) 1 1,.int .i64 0,.int .i64 1,.slice none 0 0,.int .i64 1,.int .i64 0,.slice none 0 0] by rw [hw1];exact Qbi);have hN:Blk w1 (w.heap.size+1+1+1+1+1) 26 #[.slice none 0 0,.slice none 0 0,.slice (some ⟨w.heap.size+1+1+1+1,0,none⟩) 3 3]:=by rw [hw1];exact Qbi
 have HST:=Zh (show ChS (w.heap.size+1+1+1+1+1) (.slice (some ⟨w.heap.size+1+1+1+1,0,none⟩) 3 3) w1 w1 0 0 none none 0 0 from ⟨Zr _ _,hN,Own.nil _ _ _ _,Own.nil _ _ _ _,fun b hb=>by cases hb⟩);clear hw1 hN;go_loopw [4] (fun q W=>∃ (i j:Nat) (V A:Option Addr) (cv ca:Nat),i≤6∧j=i-1∧q=.int .i64 i∧ChS (w.heap.size+1+1+1+1+1) (.slice (some ⟨w.heap.size+1+1+1+1,0,none⟩) 3 3) w1 W i j V A cv ca) (fun q _=>7-(intOf q).toNat)
 case atStart=>exact ⟨0,0,none,none,0,0,by omega,rfl,rfl,HST.out⟩
 case round =>
  obtain ⟨i,j,V,A,cv,ca,hi,hj,rfl,hch⟩:=hrel;have HCH:=Zh hch;by_cases hlt:i<6
  rotate_left
  · (obtain rfl:i=6:=by omega);(obtain rfl:j=5:=by omega);(clear hi hj hlt;have hbx:=hch.box;have x0:wr.cell? ⟨w.heap.size+1+1+1+1+1,0,none⟩=some (.slice V 6 cv):=Zq hbx;have x1:wr.cell? ⟨w.heap.size+1+1+1+1+1,1,none⟩=some (.slice A 5 ca):=Zq hbx;have x2:wr.cell? ⟨w.heap.size+1+1+1+1+1,2,none⟩=some (.slice (some ⟨w.heap.size+1+1+1+1,0,none⟩) 3 3):=Zq hbx;have hz1:=HZ1.out;have hzr:w.heap.size+1+1+1+1+1<wr.heap.size:=hbx.lt);have hC0:Blk wr w.heap.size 26 #[.slice none 0 0,.slice none 0 0,.slice none 0 0]:=HC0.out.below hch.bel (by omega);have hC1:Blk wr (w.heap.size+1) 29 #[.slice none 0 0]:=HC1.out.below hch.bel (by omega);have hC2:=HC2.out.below hch.bel (by omega);have hC4:=HC4.out.below hch.bel (by omega);obtain ⟨W6,hW6⟩:=Zx ((((wr.setCell ⟨w.heap.size,0,none⟩ (.slice V 6 cv)).setCell ⟨w.heap.size,1,none⟩ (.slice A 5 ca)).setCell ⟨w.heap.size,2,none⟩ (.slice (some ⟨w.heap.size+1+1+1+1,0,none⟩) 3 3)).setCell ⟨w.heap.size+1,0,none⟩ (.slice (some ⟨wr.heap.size+1,0,none⟩) 1 1));have hz6:W6.heap.size=wr.heap.size:=by rw [hW6];simp [World.setCell]
    have HC0':=Zh (show Blk W6 w.heap.size 26 #[.slice V 6 cv,.slice A 5 ca,.slice (some ⟨w.heap.size+1+1+1+1,0,none⟩) 3 3] by
     have h0:=((hC0.set_ 0 (.slice V 6 cv)).set_ 1 (.slice A 5 ca)).set_ 2 (.slice (some ⟨w.heap.size+1+1+1+1,0,none⟩) 3 3);rw [hW6];refine Blk.far_ (by simpa using h0) ?_ _;omega)
    have HC1':=Zh (show Blk W6 (w.heap.size+1) 29 #[.slice (some ⟨wr.heap.size+1,0,none⟩) 1 1] by
     have h1:Blk (((wr.setCell ⟨w.heap.size,0,none⟩ (.slice V 6 cv)).setCell ⟨w.heap.size,1,none⟩ (.slice A 5 ca)).setCell ⟨w.heap.size,2,none⟩ (.slice (some ⟨w.heap.size+1+1+1+1,0,none⟩) 3 3)) (w.heap.size+1) 29 #[.slice none 0 0]:=Blk.far_ (Blk.far_ (Blk.far_ hC1 (by omega) _) (by omega) _) (by omega) _;rw [hW6]
     simpa using h1.set_ 0 (.slice (some ⟨wr.heap.size+1,0,none⟩) 1 1))
    have HC2':=Zh (show Blk W6 (w.heap.size+1+1) 2 #[.int .i64 1] by rw [hW6];exact Blk.far_ (Blk.far_ (Blk.far_ (Blk.far_ hC2 (by omega) _) (by omega) _) (by omega) _) (by omega) _);have HC4':=Zh (show Blk W6 (w.heap.size+1+1+1+1) 122 #[.int .i64 1,.int .i64 1,.slice (some ⟨w.heap.size+1+1,0,none⟩) 1 1,.int .i64 0,.int .i64 1,.slice none 0 0,.int .i64 1,.int .i64 0,.slice none 0 0] by rw [hW6];exact Blk.far_ (Blk.far_ (Blk.far_ (Blk.far_ hC4 (by omega) _) (by omega) _) (by omega) _) (by omega) _)
    have HV:=Zh (show Rd3 W6 V 6 Qbc.vs by
     have h1:=hch.v;have:=((((h1.far (Qad _ w.heap.size 0 (.slice V 6 cv)) (.inr (h1.ne (by omega)))).far (Qad _ w.heap.size 1 (.slice A 5 ca)) (.inr (h1.ne (by omega)))).far (Qad _ w.heap.size 2 (.slice (some ⟨w.heap.size+1+1+1+1,0,none⟩) 3 3)) (.inr (h1.ne (by omega)))).far (Qad _ (w.heap.size+1) 0 (.slice (some ⟨wr.heap.size+1,0,none⟩) 1 1)) (.inr (h1.ne (by omega)))).rds.rd3;rw [hW6];exact this)
    have HA:=Zh (show Rd3 W6 A 5 Qbc.ar by
     have h1:=hch.a;have:=((((h1.far (Qad _ w.heap.size 0 (.slice V 6 cv)) (.inr (h1.ne (by omega)))).far (Qad _ w.heap.size 1 (.slice A 5 ca)) (.inr (h1.ne (by omega)))).far (Qad _ w.heap.size 2 (.slice (some ⟨w.heap.size+1+1+1+1,0,none⟩) 3 3)) (.inr (h1.ne (by omega)))).far (Qad _ (w.heap.size+1) 0 (.slice (some ⟨wr.heap.size+1,0,none⟩) 1 1)) (.inr (h1.ne (by omega)))).rds.rd3;rw [hW6];exact this)
    have hbr:Below w.heap.size w wr:=HB1.out.trans (hch.bel.mono (by omega));have HB6:=Zh (show Below w.heap.size w W6 by rw [hW6];exact ((((hbr.setCell (by simp only;omega) _).setCell (by simp only;omega) _).setCell (by simp only;omega) _).setCell (by simp only;omega) _));have HW6:=Zh hW6;have HZ6:=Zh hz6;obtain ⟨k0,k1,k2⟩:=hC0.three;have fk0:=hC0.frozen 0;have fk1:=hC0.frozen 1;have fk2:=hC0.frozen 2;have p0:=hC1.cell 0;simp only [Yo,Yn] at p0;have fp0:=hC1.frozen 0;have kl:=hC0.lt;have pl:=hC1.lt;have xl:=hbx.lt;clear hch hbx hC0 hC1 hC2 hC4 hW6 hz6 hbr;(go_wp2_with fail);rw [←HW6.out];(refine Qfb ?_;intro Wf hWf);(have hbf:Below W6.heap.size W6 Wf:=by rw [hWf];exact Qah);(have h1:Blk Wf wr.heap.size 3 #[.int .i64 0,.int .i64 0,.int .i64 1,.int .i64 1,.int .i64 2,.int .i64 2]:=by rw [hWf,←HZ6.out];exact Qbi);(have h2:Blk Wf (wr.heap.size+1) 61 #[.slice (some ⟨wr.heap.size,0,none⟩) 6 6]:=by rw [hWf,←HZ6.out];exact Qbi);have hB0:=HC0'.out.below hbf HC0'.out.lt;have hB1:=HC1'.out.below hbf HC1'.out.lt;have h3:=HC2'.out.below hbf HC2'.out.lt;have h4:=HC4'.out.below hbf HC4'.out.lt;obtain ⟨c0,c1,c2⟩:=hB0.three;have d0:=hB1.cell 0;simp only [Yo,Yn] at d0
    have HVf:=Zh (show Qbz Wf V A (some ⟨w.heap.size+1+1+1+1,0,none⟩) 6 5 3 Qbc from by
     refine ⟨HV.out.below hbf,HA.out.below hbf,rfl,fun i t ht=>⟨w.heap.size+1+1+1+1,0,rfl,?_⟩⟩
     match i,ht with
     | 0,ht =>
      cases ht
      exact ⟨Zq h4,Zq h4,some ⟨w.heap.size+1+1,0,none⟩,1,1,Zq h4,Rds.rdI (l:=[1]) (h3.rds rfl),Zn _,by omega⟩
     | 1,ht =>
      cases ht
      exact ⟨Zq h4,Zq h4,none,0,0,Zq h4,⟨rfl,fun j x hx=>by simp at hx⟩,Zn _,by omega⟩
     | 2,ht =>
      cases ht
      exact ⟨Zq h4,Zq h4,none,0,0,Zq h4,⟨rfl,fun j x hx=>by simp at hx⟩,Zn _,by omega⟩
     | k+3,ht=>simp [Qbc] at ht)
    have HTf:=Zh (show RdT Wf (some ⟨wr.heap.size+1,0,none⟩) 1 Qdj from by
     refine ⟨rfl,fun i l hl=>?_⟩
     match i,hl with
     | 0,hl =>
      cases hl
      exact ⟨wr.heap.size+1,0,some ⟨wr.heap.size,0,none⟩,6,6,rfl,Zq h2,Rds.rdI (l:=[0,0,1,1,2,2]) (h1.rds rfl),Zn _,by omega⟩
     | k+1,hl=>simp [Qdj] at hl)
    have HBf:=Zh (Zb HB6.out hbf);refine bodyPost_ret (v:=.tuple #[.agg #[.slice V 6 cv,.slice A 5 ca,.slice (some ⟨w.heap.size+1+1+1+1,0,none⟩) 3 3],.agg #[.slice (some ⟨wr.heap.size+1,0,none⟩) 1 1]]) (by simp [results,results31,go_sem,c0,c1,c2,d0]) rfl ?_;exact ⟨⟨_,_,_,_,_,_,_,_,rfl,HVf.out,HTf.out⟩,HBf.out⟩
  have HJ:=Zh hj;obtain ⟨ty,hty,t0,t5,tm⟩:=ch_vs i hlt;have HTY:=Zh hty;have HTV:=Zh (ch_takeV hty);clear hty;by_cases hi0:i=0;{obtain rfl:=t0 hi0;(have hj0:j=0:=by omega);(have e0:((i:Int) == 0)=true:=by simp [hi0]);(have e5:((i:Int) == 5)=false:=by simp [hi0]);(have e6:¬0<(i:Int):=by omega);(have HI0:=Zh hi0;have HJ0:=Zh hj0;clear t0 t5 tm hi0 hj0 hj;obtain ⟨x0,x1,x2⟩:=hch.box.three;have xl:=hch.box.lt;obtain ⟨W2,hW2⟩:=Zx (wr.alloc (.cells #[.int .i64 (i:Int),.int .i64 0,.int .i64 (1:Int)] 124));have hb2:Below wr.heap.size wr W2:=by rw [hW2];exact Qah);(obtain ⟨W3,hW3⟩:=Zx (W2.alloc (.cells #[.int .i64 (i:Int),.int .i64 0,.int .i64 (1:Int)] 124));have hb3:Below W2.heap.size W2 W3:=by rw [hW3];exact Qah);(have hb23:Below wr.heap.size wr W3:=Zb hb2 hb3;have HC3:=Zh (hch.below hb23);have hz2:W2.heap.size=wr.heap.size+1:=by rw [hW2];simp);(have hrd:Rds W3 3 (some ⟨wr.heap.size+1,0,none⟩) 1 (Qaw [((i:Int),0,(1:Int))]):=by rw [hW3,←hz2];exact (Blk.new W2 124 #[.int .i64 (i:Int),.int .i64 0,.int .i64 (1:Int)]).rds rfl);have hown:=HC3.out.v;have hsz:w.heap.size+1+1+1+1+1+1≤W3.heap.size:=HC3.out.box.lt;have HW3:=Zh hW3;have HW2:=Zh hW2;clear hch hb2 hb3 hb23 hW3 hW2 hz2;(go_wp2_with (at_builtin;rw [←HW2.out,←HW3.out];with_reducible refine Qal rfl (.tmp 26) (.tmp 28) 22 rfl 124 _ 3 24 Qxo underlying22 rfl (by omega) rfl rfl hown hrd (Qdp _) (by omega) (by omega) hsz ?_));intro V' c' w4 ho4 hg4 hat4;have hB4:=HC3.out.box.grown hg4 (hown.ne (by omega));clear x0 x1 x2 xl;obtain ⟨x0,x1,x2⟩:=hB4.three;have fx0:=hB4.frozen 0;have fx1:=hB4.frozen 1;have HS4:=Zh (HC3.out.pushV hg4 (by rw [HTV.out];exact ho4) hat4);obtain ⟨W4,hW4⟩:=Zx (w4.setCell ⟨w.heap.size+1+1+1+1+1,0,none⟩ (.slice V' (i+1) c'));rw [←hW4] at HS4;have HW4:=Zh hW4;clear hown hrd hsz ho4 hg4 hat4 hB4 HC3 hW4;(go_wp2_with fail);rw [←HW4.out];go_roundw;(case rel=>exact ⟨i+1,j,V',A,c',ca,by omega,by have:=HI0.out;have:=HJ0.out;omega,by go_num,HS4.out⟩);case measure=>simp [intOf];omega};have e0:((i:Int) == 0)=false:=by simpa using hi0
  have e6:0<(i:Int):=by omega
  have eij:(i:Int)-1=j:=by omega
  have wl:IntKind.i64.wrap (j:Int)=(j:Int):=IntWalk.i64_in _ (by omega);have hAR:=ch_ar j (by omega);rw [show ((j+1:Nat):Int)=(i:Int) by omega] at hAR;have HTA:=Zh (ch_takeA hAR);clear hAR t0 hj;by_cases hi5:i=5;{obtain rfl:=t5 hi5;(have e5:((i:Int) == 5)=true:=by simp [hi5]);(clear t5 tm hi5;obtain ⟨x0,x1,x2⟩:=hch.box.three;have xl:=hch.box.lt;obtain ⟨W2,hW2⟩:=Zx (wr.alloc (.cells #[.int .i64 (i:Int),.int .i64 0,.int .i64 (2:Int)] 124));have hb2:Below wr.heap.size wr W2:=by rw [hW2];exact Qah);(obtain ⟨W3,hW3⟩:=Zx (W2.alloc (.cells #[.int .i64 (i:Int),.int .i64 0,.int .i64 (2:Int)] 124));have hb3:Below W2.heap.size W2 W3:=by rw [hW3];exact Qah);(have hb23:Below wr.heap.size wr W3:=Zb hb2 hb3;have HC3:=Zh (hch.below hb23);have hz2:W2.heap.size=wr.heap.size+1:=by rw [hW2];simp);(have hrd:Rds W3 3 (some ⟨wr.heap.size+1,0,none⟩) 1 (Qaw [((i:Int),0,(2:Int))]):=by rw [hW3,←hz2];exact (Blk.new W2 124 #[.int .i64 (i:Int),.int .i64 0,.int .i64 (2:Int)]).rds rfl);have hown:=HC3.out.v;have hsz:w.heap.size+1+1+1+1+1+1≤W3.heap.size:=HC3.out.box.lt;have HW3:=Zh hW3;have HW2:=Zh hW2;clear hch hb2 hb3 hb23 hW3 hW2 hz2;(go_wp2_with (at_builtin;rw [←HW2.out,←HW3.out];with_reducible refine Qal rfl (.tmp 26) (.tmp 28) 22 rfl 124 _ 3 24 Qxo underlying22 rfl (by omega) rfl rfl hown hrd (Qdp _) (by omega) (by omega) hsz ?_));(intro V' c' w4 ho4 hg4 hat4;have hB4:=HC3.out.box.grown hg4 (hown.ne (by omega));clear x0 x1 x2 xl;obtain ⟨x0,x1,x2⟩:=hB4.three;have fx0:=hB4.frozen 0;have fx1:=hB4.frozen 1;have HS4:=Zh (HC3.out.pushV hg4 (by rw [HTV.out];exact ho4) hat4);obtain ⟨W4,hW4⟩:=Zx (w4.setCell ⟨w.heap.size+1+1+1+1+1,0,none⟩ (.slice V' (i+1) c'));rw [←hW4] at HS4;have HW4:=Zh hW4;clear hown hrd hsz ho4 hg4 hat4 hB4 HC3 hW4;have x4l:w.heap.size+1+1+1+1+1<w4.heap.size:=by have:=HS4.out.box.lt;rw [HW4.out] at this;simpa [World.setCell] using this);(have hz4:W4.heap.size=w4.heap.size:=by rw [HW4.out];simp [World.setCell]);(obtain ⟨W5,hW5⟩:=Zx (W4.alloc (.cells #[.int .i64 (j:Int),.int .i64 (i:Int),.int .i64 10] 119));have hb5:Below W4.heap.size W4 W5:=by rw [hW5];exact Qah);(have HC5:=Zh (HS4.out.below hb5);have hrd:Rds W5 3 (some ⟨w4.heap.size,0,none⟩) 1 (Qaw [((j:Int),(i:Int),10)]):=by rw [hW5,←hz4];exact (Blk.new W4 119 #[.int .i64 (j:Int),.int .i64 (i:Int),.int .i64 10]).rds rfl);exact Kam};{obtain rfl:=tm hi0 hi5;(have e5:((i:Int) == 5)=false:=by simp;omega);(clear t5 tm;obtain ⟨x0,x1,x2⟩:=hch.box.three;have xl:=hch.box.lt;obtain ⟨W2,hW2⟩:=Zx (wr.alloc (.cells #[.int .i64 (i:Int),.int .i64 0,.int .i64 (0:Int)] 124));have hb2:Below wr.heap.size wr W2:=by rw [hW2];exact Qah);(obtain ⟨W3,hW3⟩:=Zx (W2.alloc (.cells #[.int .i64 (i:Int),.int .i64 0,.int .i64 (0:Int)] 124));have hb3:Below W2.heap.size W2 W3:=by rw [hW3];exact Qah);(have hb23:Below wr.heap.size wr W3:=Zb hb2 hb3;have HC3:=Zh (hch.below hb23);have hz2:W2.heap.size=wr.heap.size+1:=by rw [hW2];simp);(have hrd:Rds W3 3 (some ⟨wr.heap.size+1,0,none⟩) 1 (Qaw [((i:Int),0,(0:Int))]):=by rw [hW3,←hz2];exact (Blk.new W2 124 #[.int .i64 (i:Int),.int .i64 0,.int .i64 (0:Int)]).rds rfl);have hown:=HC3.out.v;have hsz:w.heap.size+1+1+1+1+1+1≤W3.heap.size:=HC3.out.box.lt;have HW3:=Zh hW3;have HW2:=Zh hW2;clear hch hb2 hb3 hb23 hW3 hW2 hz2;(go_wp2_with (at_builtin;rw [←HW2.out,←HW3.out];with_reducible refine Qal rfl (.tmp 26) (.tmp 28) 22 rfl 124 _ 3 24 Qxo underlying22 rfl (by omega) rfl rfl hown hrd (Qdp _) (by omega) (by omega) hsz ?_));(intro V' c' w4 ho4 hg4 hat4;have hB4:=HC3.out.box.grown hg4 (hown.ne (by omega));clear x0 x1 x2 xl;obtain ⟨x0,x1,x2⟩:=hB4.three;have fx0:=hB4.frozen 0;have fx1:=hB4.frozen 1;have HS4:=Zh (HC3.out.pushV hg4 (by rw [HTV.out];exact ho4) hat4);obtain ⟨W4,hW4⟩:=Zx (w4.setCell ⟨w.heap.size+1+1+1+1+1,0,none⟩ (.slice V' (i+1) c'));rw [←hW4] at HS4;have HW4:=Zh hW4;clear hown hrd hsz ho4 hg4 hat4 hB4 HC3 hW4;have x4l:w.heap.size+1+1+1+1+1<w4.heap.size:=by have:=HS4.out.box.lt;rw [HW4.out] at this;simpa [World.setCell] using this);(have hz4:W4.heap.size=w4.heap.size:=by rw [HW4.out];simp [World.setCell]);(obtain ⟨W5,hW5⟩:=Zx (W4.alloc (.cells #[.int .i64 (j:Int),.int .i64 (i:Int),.int .i64 10] 119));have hb5:Below W4.heap.size W4 W5:=by rw [hW5];exact Qah);(have HC5:=Zh (HS4.out.below hb5);have hrd:Rds W5 3 (some ⟨w4.heap.size,0,none⟩) 1 (Qaw [((j:Int),(i:Int),10)]):=by rw [hW5,←hz4];exact (Blk.new W4 119 #[.int .i64 (j:Int),.int .i64 (i:Int),.int .i64 10]).rds rfl);exact Kam}
end Go.Proofs.YtdheeddnkdhfeaaGreatDoor
namespace Go.Proofs.YtdheeddnkdhfeaaGreatDoor
open Go.RowKit Go.Extern.Stop Go.Stop Go.Extern Go.Proofs.Tryz
theorem Qsr (z:Sem Value)(f:TypeId→Addr→Nat→Nat→Sem Value)(v:Value) :
 ReflectliteValue.method z f #[v]=(do match ←ReflectliteValue.parts v with|none=>z|some (t,a,fl)=>f t a fl (fl % 32)):=rfl
theorem as_rls (v x:Value):ReflectliteValue.set #[v,x]=(do
 let (some (dst,a,fl),some (src,b,_)):=(←ReflectliteValue.parts v,←ReflectliteValue.parts x)
  | unsupported (.noEntry "extern/(internal/reflectlite.Value).Set.zeroValue")
 if fl / ReflectliteValue.flagAddr % 2 == 0 then unsupported (.noEntry "extern/(internal/reflectlite.Value).Set.unaddressable")
 let val ←loadVar src b
 if ←Rtype.directlyAssignable dst src then storeVar dst a val
 else if ←Rtype.implements dst src then
  if (←Rtype.kind src) == 20 then
   match val with
   | .nilIface => unsupported (.noEntry "extern/reflectlite: a nil value of one interface type handed on as a value of another")
   | _=>storeVar dst a val
  else storeVar dst a (.iface src val)
 else panicString ("reflectlite.Set: value of type " ++ (← Rtype.spelt src) ++ " is not assignable to type " ++ (← Rtype.spelt dst))
 pure (.tuple #[])):=rfl
theorem Qnc (h : Value) (w : World) : (Go.method 463 281 (.agg #[h]) "Kind").run Tryz.prog w = .ok (231, h) w := by kernel_rfl
theorem Qnb (h : Value) (w : World) : (Go.method 463 281 (.agg #[h]) "Elem").run Tryz.prog w = .ok (243, .agg #[h]) w := by kernel_rfl
theorem Qfa (h : Value) (w : World) : (Go.method 463 281 (.agg #[h]) "Implements").run Tryz.prog w = .ok (244, .agg #[h]) w := by kernel_rfl
theorem Qdx (h : Value) (w : World) : (Go.method 463 281 (.agg #[h]) "AssignableTo").run Tryz.prog w = .ok (241, .agg #[h]) w := by kernel_rfl
def Qni:Value:=.iface 281 (.agg #[.pointer (some ⟨1,44,none⟩)])
abbrev rty (t:Nat):Value:=.agg #[.pointer (some ⟨1,t,none⟩)]
abbrev rtv (t:Nat):Value:=.iface 281 (rty t)
abbrev rvl (t:Nat) (a:Addr) (f:Int):Value:=.agg #[.pointer (some ⟨1,t,none⟩),.pointer (some a),.int .u64 f]
abbrev asW (t:Addr) (p:Nat) (w:World):World:=((w.alloc (.cells #[.pointer (some t)] p)).alloc (.cells #[.pointer (some ⟨1,p,none⟩),.pointer (some ⟨w.heap.size,0,none⟩),.int .u64 150] 232))
abbrev asX (t:Addr) (p:Nat) (w:World):World:=(asW t p w).alloc (.cells #[.pointer (some ⟨1,p,none⟩),.pointer (some ⟨w.heap.size,0,none⟩),.int .u64 150] 232)
/-! ### at **api.Fault -/
theorem Qix (t:Addr)(w:World):(ReflectliteValue.unpack (.iface 148 (.pointer (some t)))).run prog w=.ok (rvl 148 ⟨w.heap.size,0,none⟩ 150) (w.alloc (.cells #[.pointer (some t)] 148)):=by kernel_rfl
theorem Qoq (a : Addr) (w : World) : (ReflectliteValue.methodAny (ReflectliteValue.valueError "reflectlite.Value.Type" 0) (fun t _ _ _ => ReflectliteType.toType t) #[rvl 148 a 150]).run Tryz.prog w = .ok (rtv 148) w := by kernel_rfl
theorem Qop (w:World):((ReflectliteType.abiMethod fun t=>(fun a:Nat=>Value.int IntKind.u8 (a:Int)) <$> Rtype.kind t) #[.pointer (some ⟨1,148,none⟩)]).run prog w=.ok (.int .u8 22) w:=by kernel_rfl
theorem Qsq (w:World):((ReflectliteType.abiMethod fun t=>(fun a:Nat=>Value.int IntKind.u8 (a:Int)) <$> Rtype.kind t) #[.pointer (some ⟨1,146,none⟩)]).run prog w=.ok (.int .u8 22) w:=by kernel_rfl
theorem Qmc (a:Addr)(w:World):(ReflectliteValue.parts (rvl 148 a 150)).run prog w=.ok (some (148,a,150)) w:=by kernel_rfl
theorem Qoo (a p:Addr)(W:World) (ha:W.cell? a=some (.pointer (some p))) :
 (ReflectliteValue.method (ReflectliteValue.valueError "reflectlite.Value.IsNil" 0) ReflectliteValue.isNil #[rvl 148 a 150]).run Tryz.prog W = .ok (.bool false) W := by
 rw [Qsr];simp only [Sem.run_bind,Qmc,Result.andThen];simp [ReflectliteValue.isNil,loadVar,isAgg,underlying,underlying148,ha,Result.andThen]
theorem Qsp (w:World):(ReflectliteType.method ReflectliteType.elem #[rty 148]).run prog w=.ok (rtv 146) w:=by kernel_rfl
theorem Qhb (w : World) : (ReflectliteType.relation "Implements" ReflectliteType.implements_ #[rty 146, Qni]).run Tryz.prog w = .ok (.bool true) w := by kernel_rfl
theorem Quf (w:World):(Rtype.elem? 148).run prog w=.ok (some 146) w:=by kernel_rfl
theorem as_mkF (p:Addr)(w:World):(ReflectliteValue.mk 146 p ReflectliteValue.flagAddr).run prog w=.ok (rvl 146 p 406) w:=by kernel_rfl
theorem Qwk (a p:Addr)(W:World) (ha:W.cell? a=some (.pointer (some p))) :
 (ReflectliteValue.method (ReflectliteValue.valueError "reflectlite.Value.Elem" 0) ReflectliteValue.elem #[rvl 148 a 150]).run Tryz.prog W = .ok (rvl 146 p 406) W := by
 rw [Qsr];simp only [Sem.run_bind,Qmc,Result.andThen];simp [ReflectliteValue.elem,loadVar,isAgg,underlying,underlying148,ha,Result.andThen,Quf,as_mkF]
theorem Qui (v:Value)(w:World):(ReflectliteType.typeOf #[.iface 146 v]).run prog w=.ok (rtv 146) w:=by kernel_rfl
theorem Qln (w : World) : (ReflectliteType.relation "AssignableTo" ReflectliteType.assignableTo #[rty 146, rtv 146]).run Tryz.prog w = .ok (.bool true) w := by kernel_rfl
theorem Qqr (e:Addr)(w:World):(ReflectliteValue.unpack (.iface 146 (.pointer (some e)))).run prog w=.ok (rvl 146 ⟨w.heap.size,0,none⟩ 150) (w.alloc (.cells #[.pointer (some e)] 146)):=by kernel_rfl
theorem Quh (a:Addr)(w:World):(ReflectliteValue.parts (rvl 146 a 406)).run prog w=.ok (some (146,a,406)) w:=by kernel_rfl
theorem Qwo (a:Addr)(w:World):(ReflectliteValue.parts (rvl 146 a 150)).run prog w=.ok (some (146,a,150)) w:=by kernel_rfl
theorem Qud (w:World):(Rtype.directlyAssignable 146 146).run prog w=.ok true w:=by kernel_rfl
theorem as_setF (ta b:Addr)(e:Addr)(old:Value)(W:World) (hb:W.cell? b=some (.pointer (some e))) (ht:W.cell? ta=some old) (hf:W.frozen? ta=false) :
 (ReflectliteValue.set #[rvl 146 ta 406,rvl 146 b 150]).run prog W=.ok (.tuple #[]) (W.setCell ta (.pointer (some e))):=by rw [as_rls];simp only [Sem.run_bind,Quh,Qwo,Result.andThen];simp [ReflectliteValue.flagAddr,loadVar,isAgg,underlying,underlying146,hb,Result.andThen,Qud,storeVar,Value.cells,storeCells,Addr.add];rw [run_store prog W ta _ _ (by rfl)];simp [ht,hf]
/-! ### at *api.Errno -/
theorem Qor (t:Addr)(w:World):(ReflectliteValue.unpack (.iface 153 (.pointer (some t)))).run prog w=.ok (rvl 153 ⟨w.heap.size,0,none⟩ 150) (w.alloc (.cells #[.pointer (some t)] 153)):=by kernel_rfl
theorem Qwp (a : Addr) (w : World) : (ReflectliteValue.methodAny (ReflectliteValue.valueError "reflectlite.Value.Type" 0) (fun t _ _ _ => ReflectliteType.toType t) #[rvl 153 a 150]).run Tryz.prog w = .ok (rtv 153) w := by kernel_rfl
theorem Qwm (w:World):((ReflectliteType.abiMethod fun t=>(fun a:Nat=>Value.int IntKind.u8 (a:Int)) <$> Rtype.kind t) #[.pointer (some ⟨1,153,none⟩)]).run prog w=.ok (.int .u8 22) w:=by kernel_rfl
theorem as_kindE (w:World):((ReflectliteType.abiMethod fun t=>(fun a:Nat=>Value.int IntKind.u8 (a:Int)) <$> Rtype.kind t) #[.pointer (some ⟨1,131,none⟩)]).run prog w=.ok (.int .u8 2) w:=by kernel_rfl
theorem Qmb (a:Addr)(w:World):(ReflectliteValue.parts (rvl 153 a 150)).run prog w=.ok (some (153,a,150)) w:=by kernel_rfl
theorem Qwl (a p:Addr)(W:World) (ha:W.cell? a=some (.pointer (some p))) :
 (ReflectliteValue.method (ReflectliteValue.valueError "reflectlite.Value.IsNil" 0) ReflectliteValue.isNil #[rvl 153 a 150]).run Tryz.prog W = .ok (.bool false) W := by
 rw [Qsr];simp only [Sem.run_bind,Qmb,Result.andThen];simp [ReflectliteValue.isNil,loadVar,isAgg,underlying,underlying153,ha,Result.andThen]
theorem as_elemE (w:World):(ReflectliteType.method ReflectliteType.elem #[rty 153]).run prog w=.ok (rtv 131) w:=by kernel_rfl
theorem Qlp (w : World) : (ReflectliteType.relation "Implements" ReflectliteType.implements_ #[rty 131, Qni]).run Tryz.prog w = .ok (.bool true) w := by kernel_rfl
theorem Que (w:World):(Rtype.elem? 153).run prog w=.ok (some 131) w:=by kernel_rfl
theorem as_mkE (p:Addr)(w:World):(ReflectliteValue.mk 131 p ReflectliteValue.flagAddr).run prog w=.ok (rvl 131 p 386) w:=by kernel_rfl
theorem Qwj (a p:Addr)(W:World) (ha:W.cell? a=some (.pointer (some p))) :
 (ReflectliteValue.method (ReflectliteValue.valueError "reflectlite.Value.Elem" 0) ReflectliteValue.elem #[rvl 153 a 150]).run Tryz.prog W = .ok (rvl 131 p 386) W := by
 rw [Qsr];simp only [Sem.run_bind,Qmb,Result.andThen];simp [ReflectliteValue.elem,loadVar,isAgg,underlying,underlying153,ha,Result.andThen,Que,as_mkE]
theorem Qmd (v:Value)(w:World):(ReflectliteType.typeOf #[.iface 131 v]).run prog w=.ok (rtv 131) w:=by kernel_rfl
theorem Qlm (w : World) : (ReflectliteType.relation "AssignableTo" ReflectliteType.assignableTo #[rty 131, rtv 131]).run Tryz.prog w = .ok (.bool true) w := by kernel_rfl
theorem Qqq (c:Int)(w:World):(ReflectliteValue.unpack (.iface 131 (.int .i64 c))).run prog w=.ok (rvl 131 ⟨w.heap.size,0,none⟩ 130) (w.alloc (.cells #[.int .i64 c] 131)):=by kernel_rfl
theorem Qug (a:Addr)(w:World):(ReflectliteValue.parts (rvl 131 a 386)).run prog w=.ok (some (131,a,386)) w:=by kernel_rfl
theorem Qwn (a:Addr)(w:World):(ReflectliteValue.parts (rvl 131 a 130)).run prog w=.ok (some (131,a,130)) w:=by kernel_rfl
theorem Quc (w:World):(Rtype.directlyAssignable 131 131).run prog w=.ok true w:=by kernel_rfl
theorem as_setE (ta b:Addr)(c:Int)(old:Value)(W:World) (hb:W.cell? b=some (.int .i64 c)) (ht:W.cell? ta=some old) (hf:W.frozen? ta=false) :
 (ReflectliteValue.set #[rvl 131 ta 386,rvl 131 b 130]).run prog W=.ok (.tuple #[]) (W.setCell ta (.int .i64 c)):=by rw [as_rls];simp only [Sem.run_bind,Qug,Qwn,Result.andThen];simp [ReflectliteValue.flagAddr,loadVar,isAgg,underlying,underlying131,hb,Result.andThen,Quc,storeVar,Value.cells,storeCells,Addr.add];rw [run_store prog W ta _ _ (by rfl)];simp [ht,hf]
set_option maxHeartbeats 4000000 in
theorem as_hitF (e:Addr)(t:Addr)(old:Value)(w:World)(hg:w.cell? ⟨0,0,none⟩=some Qni)(ht0:w.cell? t=some old)(hf0:w.frozen? t=false) :
 Calls prog 71 #[.iface 146 (.pointer (some e)),.iface 148 (.pointer (some t))] w fun ev w'=>ev=.returned (.bool true)∧w'=((asX t 148 w).alloc (.cells #[.pointer (some e)] 146)).setCell t (.pointer (some e)):=by
 have h6:=@run_callFunc_extern prog 123 _ (fun args=>ReflectliteValue.unpack (args.getD 0 (.tuple #[]))) func123 (by kernel_rfl) (by kernel_rfl) (by kernel_rfl) (by kernel_rfl);have h7 := @run_callFunc_extern Tryz.prog 124 _ (ReflectliteValue.methodAny (ReflectliteValue.valueError "reflectlite.Value.Type" 0) (fun t _ _ _ => ReflectliteType.toType t)) Tryz.func124 (by kernel_rfl) (by kernel_rfl) (by kernel_rfl) (by kernel_rfl)
 have h8 := @run_callFunc_extern Tryz.prog 125 _ (ReflectliteValue.method (ReflectliteValue.valueError "reflectlite.Value.IsNil" 0) ReflectliteValue.isNil) Tryz.func125 (by kernel_rfl) (by kernel_rfl) (by kernel_rfl) (by kernel_rfl)
 have h27:=@run_callFunc_extern prog 231 _ (ReflectliteType.abiMethod fun t=>do pure (.int .u8 (←Rtype.kind t))) func231 (by kernel_rfl) (by kernel_rfl) (by kernel_rfl) (by kernel_rfl);have h37:=@run_callFunc_extern prog 243 _ (ReflectliteType.method ReflectliteType.elem) func243 (by kernel_rfl) (by kernel_rfl) (by kernel_rfl) (by kernel_rfl);have h38 := @run_callFunc_extern Tryz.prog 244 _ (ReflectliteType.relation "Implements" ReflectliteType.implements_) Tryz.func244 (by kernel_rfl) (by kernel_rfl) (by kernel_rfl) (by kernel_rfl)
 have h10:=@run_callFunc_extern prog 121 _ ReflectliteType.typeOf func121 (by kernel_rfl) (by kernel_rfl) (by kernel_rfl) (by kernel_rfl);have h35 := @run_callFunc_extern Tryz.prog 241 _ (ReflectliteType.relation "AssignableTo" ReflectliteType.assignableTo) Tryz.func241 (by kernel_rfl) (by kernel_rfl) (by kernel_rfl) (by kernel_rfl)
 have h11 := @run_callFunc_extern Tryz.prog 167 _ (ReflectliteValue.method (ReflectliteValue.valueError "reflectlite.Value.Elem" 0) ReflectliteValue.elem) Tryz.func167 (by kernel_rfl) (by kernel_rfl) (by kernel_rfl) (by kernel_rfl)
 have h12:=@run_callFunc_extern prog 168 _ ReflectliteValue.set func168 (by kernel_rfl) (by kernel_rfl) (by kernel_rfl) (by kernel_rfl);have mA:=Qdx;have mK:=Qnc;have mE:=Qnb;have mI:=Qfa;have tO:=Qui;have aS:=Qln;have vO:=Qqr;have f6:=Qix;have f7:=Qoq;have kP:=Qop;have kE:=Qsq;have eL:=Qsp;have iM:=Qhb;have n8:=Qoo ⟨w.heap.size,0,none⟩ t (asW t 148 w) (by simp);have hlt:0<w.heap.size:=Qak hg
 have htl:t.block<w.heap.size:=Qak ht0
 have hg2:(asW t 148 w).cell? ⟨0,0,none⟩=some Qni:=by{exact Kbp};have el:=Qwk ⟨w.heap.size,0,none⟩ t (asX t 148 w) (by rw [World.cell?_alloc_lt _ _ ⟨w.heap.size,0,none⟩ (by simp;omega)];simp)
 have st:=as_setF t ⟨w.heap.size+1+1+1,0,none⟩ e old ((asX t 148 w).alloc (.cells #[.pointer (some e)] 146))
  (by rw [World.cell?_alloc_at _ _ _ _ (by simp)];rfl)
  (by rw [World.cell?_alloc_lt _ _ t (by simp;omega),World.cell?_alloc_lt _ _ t (by simp;omega),World.cell?_alloc_lt _ _ t (by simp;omega),World.cell?_alloc_lt _ _ t htl];exact ht0)
  (by rw [World.frozen?_alloc_old _ _ t (by simp;omega),World.frozen?_alloc_old _ _ t (by simp;omega),World.frozen?_alloc_old _ _ t (by simp;omega),World.frozen?_alloc_old _ _ t (Nat.ne_of_lt htl)];exact hf0)
 exact Kby
set_option maxHeartbeats 4000000 in
theorem as_hitE (c:Int)(t:Addr)(old:Value)(w:World)(hg:w.cell? ⟨0,0,none⟩=some Qni)(ht0:w.cell? t=some old)(hf0:w.frozen? t=false) :
 Calls prog 71 #[.iface 131 (.int .i64 c),.iface 153 (.pointer (some t))] w fun ev w'=>ev=.returned (.bool true)∧w'=((asX t 153 w).alloc (.cells #[.int .i64 c] 131)).setCell t (.int .i64 c):=by
 have h6:=@run_callFunc_extern prog 123 _ (fun args=>ReflectliteValue.unpack (args.getD 0 (.tuple #[]))) func123 (by kernel_rfl) (by kernel_rfl) (by kernel_rfl) (by kernel_rfl);have h7 := @run_callFunc_extern Tryz.prog 124 _ (ReflectliteValue.methodAny (ReflectliteValue.valueError "reflectlite.Value.Type" 0) (fun t _ _ _ => ReflectliteType.toType t)) Tryz.func124 (by kernel_rfl) (by kernel_rfl) (by kernel_rfl) (by kernel_rfl)
 have h8 := @run_callFunc_extern Tryz.prog 125 _ (ReflectliteValue.method (ReflectliteValue.valueError "reflectlite.Value.IsNil" 0) ReflectliteValue.isNil) Tryz.func125 (by kernel_rfl) (by kernel_rfl) (by kernel_rfl) (by kernel_rfl)
 have h27:=@run_callFunc_extern prog 231 _ (ReflectliteType.abiMethod fun t=>do pure (.int .u8 (←Rtype.kind t))) func231 (by kernel_rfl) (by kernel_rfl) (by kernel_rfl) (by kernel_rfl);have h37:=@run_callFunc_extern prog 243 _ (ReflectliteType.method ReflectliteType.elem) func243 (by kernel_rfl) (by kernel_rfl) (by kernel_rfl) (by kernel_rfl);have h38 := @run_callFunc_extern Tryz.prog 244 _ (ReflectliteType.relation "Implements" ReflectliteType.implements_) Tryz.func244 (by kernel_rfl) (by kernel_rfl) (by kernel_rfl) (by kernel_rfl)
 have h10:=@run_callFunc_extern prog 121 _ ReflectliteType.typeOf func121 (by kernel_rfl) (by kernel_rfl) (by kernel_rfl) (by kernel_rfl);have h35 := @run_callFunc_extern Tryz.prog 241 _ (ReflectliteType.relation "AssignableTo" ReflectliteType.assignableTo) Tryz.func241 (by kernel_rfl) (by kernel_rfl) (by kernel_rfl) (by kernel_rfl)
 have h11 := @run_callFunc_extern Tryz.prog 167 _ (ReflectliteValue.method (ReflectliteValue.valueError "reflectlite.Value.Elem" 0) ReflectliteValue.elem) Tryz.func167 (by kernel_rfl) (by kernel_rfl) (by kernel_rfl) (by kernel_rfl)
 have h12:=@run_callFunc_extern prog 168 _ ReflectliteValue.set func168 (by kernel_rfl) (by kernel_rfl) (by kernel_rfl) (by kernel_rfl);have mA:=Qdx;have mK:=Qnc;have mE:=Qnb;have mI:=Qfa;have tO:=Qmd;have aS:=Qlm;have vO:=Qqq;have f6:=Qor;have f7:=Qwp;have kP:=Qwm;have kE:=as_kindE;have eL:=as_elemE;have iM:=Qlp;have n8:=Qwl ⟨w.heap.size,0,none⟩ t (asW t 153 w) (by simp);have hlt:0<w.heap.size:=Qak hg
 have htl:t.block<w.heap.size:=Qak ht0
 have hg2:(asW t 153 w).cell? ⟨0,0,none⟩=some Qni:=by{exact Kbp};have el:=Qwj ⟨w.heap.size,0,none⟩ t (asX t 153 w) (by rw [World.cell?_alloc_lt _ _ ⟨w.heap.size,0,none⟩ (by simp;omega)];simp)
 have st:=as_setE t ⟨w.heap.size+1+1+1,0,none⟩ c old ((asX t 153 w).alloc (.cells #[.int .i64 c] 131))
  (by rw [World.cell?_alloc_at _ _ _ _ (by simp)];rfl)
  (by rw [World.cell?_alloc_lt _ _ t (by simp;omega),World.cell?_alloc_lt _ _ t (by simp;omega),World.cell?_alloc_lt _ _ t (by simp;omega),World.cell?_alloc_lt _ _ t htl];exact ht0)
  (by rw [World.frozen?_alloc_old _ _ t (by simp;omega),World.frozen?_alloc_old _ _ t (by simp;omega),World.frozen?_alloc_old _ _ t (by simp;omega),World.frozen?_alloc_old _ _ t (Nat.ne_of_lt htl)];exact hf0)
 exact Kby
theorem Qlo (w : World) : (ReflectliteType.relation "AssignableTo" ReflectliteType.assignableTo #[rty 131, rtv 146]).run Tryz.prog w = .ok (.bool false) w := by kernel_rfl
set_option maxHeartbeats 4000000 in
theorem as_miss (c:Int)(t:Addr)(w:World)(hg:w.cell? ⟨0,0,none⟩=some Qni) :
 Calls prog 71 #[Qpb c,.iface 148 (.pointer (some t))] w fun ev w'=>ev=.returned (.bool false)∧w'=asX t 148 w:=by
 have h6:=@run_callFunc_extern prog 123 _ (fun args=>ReflectliteValue.unpack (args.getD 0 (.tuple #[]))) func123 (by kernel_rfl) (by kernel_rfl) (by kernel_rfl) (by kernel_rfl);have h7 := @run_callFunc_extern Tryz.prog 124 _ (ReflectliteValue.methodAny (ReflectliteValue.valueError "reflectlite.Value.Type" 0) (fun t _ _ _ => ReflectliteType.toType t)) Tryz.func124 (by kernel_rfl) (by kernel_rfl) (by kernel_rfl) (by kernel_rfl)
 have h8 := @run_callFunc_extern Tryz.prog 125 _ (ReflectliteValue.method (ReflectliteValue.valueError "reflectlite.Value.IsNil" 0) ReflectliteValue.isNil) Tryz.func125 (by kernel_rfl) (by kernel_rfl) (by kernel_rfl) (by kernel_rfl)
 have h27:=@run_callFunc_extern prog 231 _ (ReflectliteType.abiMethod fun t=>do pure (.int .u8 (←Rtype.kind t))) func231 (by kernel_rfl) (by kernel_rfl) (by kernel_rfl) (by kernel_rfl);have h37:=@run_callFunc_extern prog 243 _ (ReflectliteType.method ReflectliteType.elem) func243 (by kernel_rfl) (by kernel_rfl) (by kernel_rfl) (by kernel_rfl);have h38 := @run_callFunc_extern Tryz.prog 244 _ (ReflectliteType.relation "Implements" ReflectliteType.implements_) Tryz.func244 (by kernel_rfl) (by kernel_rfl) (by kernel_rfl) (by kernel_rfl)
 have h10:=@run_callFunc_extern prog 121 _ ReflectliteType.typeOf func121 (by kernel_rfl) (by kernel_rfl) (by kernel_rfl) (by kernel_rfl);have h35 := @run_callFunc_extern Tryz.prog 241 _ (ReflectliteType.relation "AssignableTo" ReflectliteType.assignableTo) Tryz.func241 (by kernel_rfl) (by kernel_rfl) (by kernel_rfl) (by kernel_rfl)
 have h11 := @run_callFunc_extern Tryz.prog 167 _ (ReflectliteValue.method (ReflectliteValue.valueError "reflectlite.Value.Elem" 0) ReflectliteValue.elem) Tryz.func167 (by kernel_rfl) (by kernel_rfl) (by kernel_rfl) (by kernel_rfl)
 have h12:=@run_callFunc_extern prog 168 _ ReflectliteValue.set func168 (by kernel_rfl) (by kernel_rfl) (by kernel_rfl) (by kernel_rfl);have mA:=Qdx;have mK:=Qnc;have mE:=Qnb;have mI:=Qfa;have tO:=Qmd;have aS:=Qlo;have f6:=Qix;have f7:=Qoq;have kP:=Qop;have kE:=Qsq;have eL:=Qsp;have iM:=Qhb;have nA:=er_noAs;have nU:=Qrc;have nV:=Qpa;have n8:=Qoo ⟨w.heap.size,0,none⟩ t (asW t 148 w) (by simp);have hlt:0<w.heap.size:=Qak hg
 have hg2:(asW t 148 w).cell? ⟨0,0,none⟩=some Qni:=by{exact Kbp};exact Kby
end Go.Proofs.YtdheeddnkdhfeaaGreatDoor
