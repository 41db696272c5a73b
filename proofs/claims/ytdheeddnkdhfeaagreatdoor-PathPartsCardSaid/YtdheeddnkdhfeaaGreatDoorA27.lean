/- Parts of the proof: On, Po, Md. -/
import Derived.Test.YtdheeddnkdhfeaaGreatDoorA9
namespace Go.Proofs.YtdheeddnkdhfeaaGreatDoor
open Go.RowKit Go.Proofs.Tryz
attribute [local go_sem ↓] Go.wp_at_zero Go.wp_at_succ
theorem Qgq {l:List Int}{j:Nat}{x:Int} (h:l[j]?=some x):Qag (l.take (j+1))=Qag (l.take j) ++Qag [x]:=by
 rw [Yf (Zs h).1,(Zs h).2,Qbj]
set_option maxHeartbeats 4000000 in
set_option maxRecDepth 20000 in
theorem Quo (g:Nat)(N:Qam)(Q:Option Addr)(L cq n:Nat) (ls:List (List Int)) (w:World) (h:Qes w g N) (hN:Qap N) (hq:RdT w Q L ls) (hP:Qaw n ls) (hn:N.vs.length=n) :
 Calls prog 89 #[.pointer (some ⟨g,0,none⟩),.agg #[.slice Q L cq]] w fun e w'=>∃ o,e=.returned (.tuple #[.pointer (some ⟨o,0,none⟩),.nilIface])∧Qfy (msk w' (fun b=>w.heap.size≤b∧b<w'.heap.size)) o N.ar ls∧Below w.heap.size w w':=by
 have HG:=Zh h;have HN:=Zh hN;have HT:=Zh hq;have HP:=Zh hP;have HVN:=Zh hn;have hn4:n≤4096:=by rw [←hn];exact hN.lv
 have HM:=Zh hN.la;have l6:L≤6:=by rw [←hq.1];exact hP.l6
 clear h hN hq hP hn
 go_enter func89,ntmps89
 go_wp2_with fail
 (refine Qai ?_;intro w1 hw1)
 have hb1:Below w.heap.size w w1:=by rw [hw1];exact Qah
 have hQ:Blk w1 w.heap.size 132 #[.slice Q L cq]:=by rw [hw1];exact Qbh
 have hzz1:w.heap.size+1≤w1.heap.size:=by rw [hw1];simp
 clear hw1
 have HSX:=Zh (show ∀ V,Below w1.heap.size w1 V→V.cell? ⟨w.heap.size,0,none⟩=some (.slice Q L cq) from fun V hV=>by
  have:=(hQ.below hV hQ.lt).cell 0
  simpa using this)
 refine wp_region_held_drew (S:=fun V=>Below w1.heap.size w1 V) (by kernel_rfl) (Zr _ _).drew (fun _=>?_);refine tz 0 14 ?_;refine tz 2 16 ?_;refine Zk 1 (fun K hK=>?_);go_simp;with_reducible refine (Qlt g N _ (HG.out.below (show Below w.heap.size w w1.drew from Qah))).mono ?_
 rintro e w' ⟨rfl,rfl⟩;rw [HVN.out]
 go_wp2_with fail
 refine hK.out _ _ (Zr _ _).drew (fun _=>?_);clear hK K;refine Zk 3 (fun K hK=>?_);go_simp;with_reducible refine (Qir Q n L cq ls _ (HT.out.below (show Below w.heap.size w w1.drew from Qah)) HP.out hn4).mono ?_
 rintro e w2 ⟨rfl,hb2⟩;have hb12:Below w1.heap.size w1 w2:=Zb Qah hb2;clear hb2
 go_wp2_with fail
 refine hK.out _ _ hb12 (fun _=>?_);clear hK K;refine tz 4 6 ?_;refine Zd ?_;have hbw2:=Zb hb1 hb12
 go_wp2_with fail
 refine wp_region_held_drew (S:=fun V=>Below w1.heap.size w1 V) (by kernel_rfl) hb12.drew (fun _=>?_);refine tz 0 21 ?_;refine tz 2 23 ?_;refine tz 3 24 ?_;refine Zk 1 (fun K hK=>?_);go_simp;with_reducible refine (Qsp Q L cq ls _ (HT.out.below (show Below w.heap.size w w2.drew from Qah)) (by omega) (fun l hl=>by have:=(HP.out.lvl l hl).len;omega)).mono ?_
 rintro e w3 ⟨Q3,cq3,rfl,hq3,hq3a,hq3b,hb3⟩;have hb23:Below w2.heap.size w2 w3:=(Zr _ w2).drew.trans hb3;have hq3:RdT (msk w3 (fun b=>w2.heap.size≤b∧b<w3.heap.size)) Q3 L ls:=hq3;have hb13:Below w1.heap.size w1 w3:=Zb hb12 hb23;have hbw3:=Zb hbw2 hb23;clear hb3
 go_wp2_with fail
 refine hK.out _ _ hb13 (fun _=>?_);clear hK K;refine Zk 4 (fun K hK=>?_);go_simp;with_reducible refine (Qvn g N Q L cq n ls w3 (HG.out.below hbw3) HN.out (HT.out.below hbw3) HP.out HVN.out).mono ?_
 rintro e w4 ⟨G4,rfl,hg4,hb4⟩;have hb14:Below w1.heap.size w1 w4:=Zb hb13 hb4;have hbw4:=Zb hbw3 hb4
 go_wp2_with fail
 refine hK.out _ _ hb14 (fun _=>?_);clear hK K;refine tz 5 26 ?_;refine Zk 6 (fun K hK=>?_);go_simp;refine hK.out _ _ (Bel.alloc hb14) (fun _=>?_);clear hK K;refine tz 7 7 ?_;refine Zd ?_;obtain ⟨w5,hw5⟩:∃ w5,w5=w4.alloc (.cells #[.slice Q3 L cq3,.slice none 0 0,.slice none 0 0,.slice G4 L L,.slice none 0 0,.int .i64 0] 208):=⟨_,rfl⟩;rw [←hw5];have hb45:Below w4.heap.size w4 w5:=by rw [hw5];exact Qah
 have hO5:Blk w5 w4.heap.size 208 #[.slice Q3 L cq3,.slice none 0 0,.slice none 0 0,.slice G4 L L,.slice none 0 0,.int .i64 0]:=by rw [hw5];exact Blk.new _ _ _
 have hz5:w5.heap.size=w4.heap.size+1:=by rw [hw5];simp
 clear hw5 HSX hQ;have hz12:=hb12.size;have hz23:=hb23.size;have hz34:=hb4.size;have HQ4:=Zh (show RdT (msk w4 (fun b=>w.heap.size≤b∧b<w4.heap.size)) Q3 L ls from hq3.le (Le.trans (Qbc.msk (Qbc.below hb4 |>.mono (fun b hb=>hb))) (Qbk (fun b hb=>⟨by omega,by omega⟩))))
 have HG4:=Zh (show RdG (msk w4 (fun b=>w.heap.size≤b∧b<w4.heap.size)) G4 L (Qac N.ar ls) from hg4.le (Qbk (fun b hb=>⟨by omega,hb.2⟩)))
 have HCQ:=Zh (And.intro hq3a hq3b);clear hq3 hg4 hb4 hb23 hb12 hb13 hb14 hbw2 hbw3 hq3a hq3b
 go_wp2_with fail
 with_reducible refine (Qgb g N w5 (HG.out.below (Zb hbw4 hb45))).mono ?_
 rintro e w' ⟨rfl,rfl⟩;have hm:N.ar.length≤16384:=HM.out;generalize hMM:N.ar.length=M at *;have HML:=Zh hMM;clear hMM
 go_wp2_with fail
 go_loopw [30] (fun q W=>w4.heap.size+1≤W.heap.size∧Below w4.heap.size w4 W∧∃ (j:Nat) (F:Option Addr) (cF:Nat) (T:Option Addr) (cT:Nat),j≤M∧q=.int .i64 j∧Blk W w4.heap.size 208 #[.slice Q3 L cq3,.slice F j cF,.slice T j cT,.slice G4 L L,.slice none 0 0,.int .i64 0]∧Own W (w4.heap.size+1) 3 1 F j cF (Qag ((N.ar.map (·.1)).take j))∧Own W (w4.heap.size+1) 3 1 T j cT (Qag ((N.ar.map (·.2.1)).take j))∧Dj F T) (fun q _=>M-(intOf q).toNat)
 case atStart=>exact ⟨by omega,hb45,0,none,0,none,0,Nat.zero_le _,rfl,hO5,Own.nil _ _ _ _,Own.nil _ _ _ _,.inl rfl⟩
 case round =>
  clear hb45 hO5 hz5;obtain ⟨hzwr,hbwr,j,F,cF,T,cT,hj,rfl,hOwr,hoF,hoT,hdj⟩:=hrel
  by_cases hlt:j<M
  · obtain ⟨⟨x,y,z⟩,hx⟩:∃ x,N.ar[j]?=some x:=⟨_,Zg (by rw [HML.out];exact hlt)⟩
    have HNF:=Zh (Qgq (l:=N.ar.map (·.1)) (j:=j) (x:=x) (by rw [Yt,hx];rfl));have HNT:=Zh (Qgq (l:=N.ar.map (·.2.1)) (j:=j) (x:=y) (by rw [Yt,hx];rfl));have HFR:=Zh (show ∀ V,Below w4.heap.size w4 V→Calls prog 143 #[.pointer (some ⟨g,0,none⟩),.int .i64 j] V fun e w'=>e=.returned (.int .i64 x)∧V=w' from fun V hV=>Qgf g j N _ V (HG.out.below (Zb hbw4 hV)) hx)
    have HTO:=Zh (show ∀ V,Below w4.heap.size w4 V→Calls prog 144 #[.pointer (some ⟨g,0,none⟩),.int .i64 j] V fun e w'=>e=.returned (.int .i64 y)∧V=w' from fun V hV=>Qeu g j N _ V (HG.out.below (Zb hbw4 hV)) hx)
    have i1:(0:Int)≤(j:Int):=by omega
    have i2:(j:Int)<(M:Int):=by omega
    clear hx
    go_wp2_with fail
    refine wp_region_held_drew (S:=fun V=>Below w4.heap.size w4 V) (by kernel_rfl) hbwr.drew (fun _=>?_);refine tz 0 33 ?_;refine tz 1 34 ?_;refine tz 2 35 ?_;refine tz 3 36 ?_;refine tz 5 38 ?_;refine tz 6 39 ?_;refine wpAnyH_ready (rs:=[4,7]) (by kernel_rfl) (by simp) ?_;refine AllReadyH.cons (o:=_) rfl (fun K hK=>?_) (AllReadyH.cons (o:=_) rfl (fun K hK=>?_) AllReadyH.nil)
    focus
     obtain ⟨o0,o1,o2,o3,o4,o5⟩:=hOwr.six;go_simp;refine hK.out _ _ hbwr.drew (fun _=>?_);clear hK K o0 o1 o2 o3 o4 o5;refine Zk 7 (fun K hK=>?_);go_simp;with_reducible refine (HFR.out _ hbwr.drew).mono ?_
     rintro e w' ⟨rfl,rfl⟩
     go_wp2_with fail
     refine hK.out _ _ hbwr.drew (fun _=>?_);clear hK K;refine Zk 8 (fun K hK=>?_);go_simp;refine hK.out _ _ ((hbwr.alloc (by omega) _).drew) (fun _=>?_);clear hK K
    rotate_left
    focus
     go_simp;with_reducible refine (HFR.out _ hbwr.drew).mono ?_
     rintro e w' ⟨rfl,rfl⟩
     go_wp2_with fail
     refine hK.out _ _ hbwr.drew (fun _=>?_);clear hK K;refine wpAnyH_ready (rs:=[4,8]) (by kernel_rfl) (by simp) ?_;refine AllReadyH.cons (o:=_) rfl (fun K hK=>?_) (AllReadyH.cons (o:=_) rfl (fun K hK=>?_) AllReadyH.nil)
     focus
      obtain ⟨o0,o1,o2,o3,o4,o5⟩:=hOwr.six;go_simp;refine hK.out _ _ hbwr.drew (fun _=>?_);clear hK K o0 o1 o2 o3 o4 o5;refine Zk 8 (fun K hK=>?_);go_simp;refine hK.out _ _ ((hbwr.alloc (by omega) _).drew) (fun _=>?_);clear hK K
     rotate_left
     focus
      go_simp;refine hK.out _ _ ((hbwr.alloc (by omega) _).drew) (fun _=>?_);clear hK K;have o1:=fun ob=>(hOwr.alloc ob).six.2.1
      have o2:=fun ob=>(hOwr.alloc ob).six.2.2.1
      refine Zk 4 (fun K hK=>?_);go_simp;refine hK.out _ _ ((hbwr.alloc (by omega) _).drew) (fun _=>?_);clear hK K o1 o2
    all_goals
     obtain ⟨WA,hWA⟩:∃ WA,WA=(wr.alloc (.cells #[.int .i64 x] 3)).drew:=⟨_,rfl⟩;rw [←hWA];have hbA:Below wr.heap.size wr WA:=by rw [hWA];exact Qah
     have hrA:Rds WA 1 (some ⟨wr.heap.size,0,none⟩) 1 (Qag [x]):=by rw [hWA];exact (Blk.new wr 3 (Qcj [x])).rds rfl
     clear hWA;have hoA:=hoF.below hbA;have hoB:=hoT.below hbA;have hOA:=hOwr.below hbA hOwr.lt;have hb4A:Below w4.heap.size w4 WA:=hbwr.trans (hbA.mono (by omega));have hszA:w4.heap.size+1≤WA.heap.size:=Yx hzwr hbA.size;refine Zk 9 (fun K hK=>?_);with_reducible refine Qay (some 42) rfl rfl (.tmp 37) (.tmp 41) 61 rfl 3 _ 1 8 Qbm underlying61 rfl (by omega) rfl rfl hoA hrA (Qao _) (by omega) (by omega) (by omega) ?_
     intro F2 cF2 w' hown' hg hat;have hO':=hOA.grown hg (hoA.ne (by omega));have hoB':=hoB.far hg hdj.far;have hDJ:=hdj.next hoB hat;have hb4':Below w4.heap.size w4 w':=Zo hb4A hg (hoA.mono (by omega)) (by omega);have hz':=hg.size;clear hOA hoA hoB hrA hg hat hbA hb4A;refine hK.out _ _ hb4' (fun _=>?_);clear hK K;simp only [Act.put,Yi,Yj,Yk];refine tz 10 43 ?_;refine tz 11 44 ?_;obtain ⟨o0,o1,o2,o3,o4,o5⟩:=hO'.six;have of:=hO'.frozen 1;refine Zk 12 (fun K hK=>?_);go_simp;refine hK.out _ _ (hb4'.setCell (by simp) _) (fun _=>?_);clear hK K;refine Zd ?_;obtain ⟨W6,hwW6⟩:∃ W6,W6=w'.setCell ⟨w4.heap.size,1,none⟩ (.slice F2 (j+1) cF2):=⟨_,rfl⟩;rw [←hwW6];have hOW6:Blk W6 w4.heap.size 208 #[.slice Q3 L cq3,.slice F2 (j+1) cF2,.slice T j cT,.slice G4 L L,.slice none 0 0,.int .i64 0]:=by rw [hwW6];exact hO'.set_ 1 _
     have hoAW6:Own W6 (w4.heap.size+1) 3 1 F2 (j+1) cF2 (Qag ((N.ar.map (·.1)).take (j+1))):=by rw [hwW6,HNF.out];exact hown'.far (Qad _ _ _ _) (.inr (hown'.ne (by omega)))
     have hoBW6:=hoB'.far (Qad w' w4.heap.size 1 (.slice F2 (j+1) cF2)) (.inr (hoB'.ne (by omega)));rw [←hwW6] at hoBW6;have hbW6:Below w4.heap.size w4 W6:=by rw [hwW6];exact hb4'.setCell (by simp) _
     have hzW6:w4.heap.size+1≤W6.heap.size:=by rw [hwW6];simp [World.setCell];omega
     clear hwW6 hO' hoB' hown' hb4' o0 o1 o2 o3 o4 o5 of hOwr hoF hoT hbwr
     go_wp2_with fail
     refine wp_region_held_drew (S:=fun V=>Below w4.heap.size w4 V) (by kernel_rfl) hbW6.drew (fun _=>?_);refine tz 0 45 ?_;refine tz 1 46 ?_;refine tz 2 47 ?_;refine tz 3 48 ?_;refine tz 5 50 ?_;refine tz 6 51 ?_;refine wpAnyH_ready (rs:=[4,7]) (by kernel_rfl) (by simp) ?_;refine AllReadyH.cons (o:=_) rfl (fun K hK=>?_) (AllReadyH.cons (o:=_) rfl (fun K hK=>?_) AllReadyH.nil)
     focus
      obtain ⟨o0,o1,o2,o3,o4,o5⟩:=hOW6.six;go_simp;refine hK.out _ _ hbW6.drew (fun _=>?_);clear hK K o0 o1 o2 o3 o4 o5;refine Zk 7 (fun K hK=>?_);go_simp;with_reducible refine (HTO.out _ hbW6.drew).mono ?_
      rintro e w' ⟨rfl,rfl⟩
      go_wp2_with fail
      refine hK.out _ _ hbW6.drew (fun _=>?_);clear hK K;refine Zk 8 (fun K hK=>?_);go_simp;refine hK.out _ _ ((hbW6.alloc (by omega) _).drew) (fun _=>?_);clear hK K
     rotate_left
     focus
      go_simp;with_reducible refine (HTO.out _ hbW6.drew).mono ?_
      rintro e w' ⟨rfl,rfl⟩
      go_wp2_with fail
      refine hK.out _ _ hbW6.drew (fun _=>?_);clear hK K;refine wpAnyH_ready (rs:=[4,8]) (by kernel_rfl) (by simp) ?_;refine AllReadyH.cons (o:=_) rfl (fun K hK=>?_) (AllReadyH.cons (o:=_) rfl (fun K hK=>?_) AllReadyH.nil)
      focus
       obtain ⟨o0,o1,o2,o3,o4,o5⟩:=hOW6.six;go_simp;refine hK.out _ _ hbW6.drew (fun _=>?_);clear hK K o0 o1 o2 o3 o4 o5;refine Zk 8 (fun K hK=>?_);go_simp;refine hK.out _ _ ((hbW6.alloc (by omega) _).drew) (fun _=>?_);clear hK K
      rotate_left
      focus
       go_simp;refine hK.out _ _ ((hbW6.alloc (by omega) _).drew) (fun _=>?_);clear hK K;have o1:=fun ob=>(hOW6.alloc ob).six.2.1
       have o2:=fun ob=>(hOW6.alloc ob).six.2.2.1
       refine Zk 4 (fun K hK=>?_);go_simp;refine hK.out _ _ ((hbW6.alloc (by omega) _).drew) (fun _=>?_);clear hK K o1 o2
     all_goals
      obtain ⟨WA,hWA⟩:∃ WA,WA=(W6.alloc (.cells #[.int .i64 y] 3)).drew:=⟨_,rfl⟩;rw [←hWA];have hbA:Below W6.heap.size W6 WA:=by rw [hWA];exact Qah
      have hrA:Rds WA 1 (some ⟨W6.heap.size,0,none⟩) 1 (Qag [y]):=by rw [hWA];exact (Blk.new W6 3 (Qcj [y])).rds rfl
      clear hWA;have hoA:=hoBW6.below hbA;have hoB:=hoAW6.below hbA;have hOA:=hOW6.below hbA hOW6.lt;have hb4A:Below w4.heap.size w4 WA:=hbW6.trans (hbA.mono (by omega));have hszA:w4.heap.size+1≤WA.heap.size:=Yx hzW6 hbA.size;refine Zk 9 (fun K hK=>?_);with_reducible refine Qay (some 54) rfl rfl (.tmp 49) (.tmp 53) 61 rfl 3 _ 1 8 Qbm underlying61 rfl (by omega) rfl rfl hoA hrA (Qao _) (by omega) (by omega) (by omega) ?_
      intro T2 cT2 w' hown' hg hat;have hO':=hOA.grown hg (hoA.ne (by omega));have hoB':=hoB.far hg hDJ.symm.far;have hDJ2:=hDJ.symm.next hoB hat;have hb4':Below w4.heap.size w4 w':=Zo hb4A hg (hoA.mono (by omega)) (by omega);have hz':=hg.size;clear hOA hoA hoB hrA hg hat hbA hb4A;refine hK.out _ _ hb4' (fun _=>?_);clear hK K;simp only [Act.put,Yi,Yj,Yk];refine tz 10 55 ?_;refine tz 11 56 ?_;obtain ⟨o0,o1,o2,o3,o4,o5⟩:=hO'.six;have of:=hO'.frozen 2;refine Zk 12 (fun K hK=>?_);go_simp;refine hK.out _ _ (hb4'.setCell (by simp) _) (fun _=>?_);clear hK K;refine Zd ?_;obtain ⟨W7,hwW7⟩:∃ W7,W7=w'.setCell ⟨w4.heap.size,2,none⟩ (.slice T2 (j+1) cT2):=⟨_,rfl⟩;rw [←hwW7];have hOW7:Blk W7 w4.heap.size 208 #[.slice Q3 L cq3,.slice F2 (j+1) cF2,.slice T2 (j+1) cT2,.slice G4 L L,.slice none 0 0,.int .i64 0]:=by rw [hwW7];exact hO'.set_ 2 _
      have hoAW7:Own W7 (w4.heap.size+1) 3 1 T2 (j+1) cT2 (Qag ((N.ar.map (·.2.1)).take (j+1))):=by rw [hwW7,HNT.out];exact hown'.far (Qad _ _ _ _) (.inr (hown'.ne (by omega)))
      have hoBW7:=hoB'.far (Qad w' w4.heap.size 2 (.slice T2 (j+1) cT2)) (.inr (hoB'.ne (by omega)));rw [←hwW7] at hoBW7;have hbW7:Below w4.heap.size w4 W7:=by rw [hwW7];exact hb4'.setCell (by simp) _
      have hzW7:w4.heap.size+1≤W7.heap.size:=by rw [hwW7];simp [World.setCell];omega
      clear hwW7 hO' hoB' hown' hb4' o0 o1 o2 o3 o4 o5 of hOW6 hoBW6 hoAW6 hbW6
      go_wp2_with fail
      go_roundw
      case rel=>exact ⟨hzW7,hbW7,j+1,F2,cF2,T2,cT2,by omega,by go_num,hOW7,hoBW7,hoAW7,hDJ2.symm⟩
      case measure=>simp [intOf];omega
  · obtain rfl:M=j:=by omega
    rw [Ye (by rw [List.length_map,HML.out];exact Zn _)] at hoF hoT;have HOF:=Zh hoF;have HOT:=Zh hoT;obtain ⟨o0,o1,o2,o3,o4,o5⟩:=hOwr.six;obtain ⟨wo,hwo⟩:∃ wo,wo=wr:=⟨_,rfl⟩;subst hwo;have hsA0:Qbx ((Qac N.ar ls).take 0)=0:=by simp [Qbx]
    have HS0:=Zh (show Blk wo w4.heap.size 208 #[.slice Q3 L cq3,.slice F M cF,.slice T M cT,.slice G4 L L,.slice none 0 0,.int .i64 ((Qbx ((Qac N.ar ls).take 0):Nat):Int)] by rw [hsA0];exact hOwr)
    clear hoF hoT hdj hsA0
    go_wp2_with fail
    clear o0 o1 o2 o3 o4 o5
    go_loopw [63] (fun q W=>wo.heap.size≤W.heap.size∧Below w4.heap.size w4 W∧Qbc (fun b=>b≠w4.heap.size∧b<wo.heap.size) wo W∧∃ (i:Nat) (S:Option Addr) (cS:Nat) (xs:List Value),i≤L∧q=.int .i64 i∧Blk W w4.heap.size 208 #[.slice Q3 L cq3,.slice F M cF,.slice T M cT,.slice G4 L L,.slice S i cS,.int .i64 ((Qbx ((Qac N.ar ls).take i):Nat):Int)]∧RwL W wo.heap.size S i cS xs ((Qud (Qac N.ar ls)).take i)) (fun q _=>L-(intOf q).toNat)
    case atStart=>exact ⟨Zn _,hbwr,Qbc.refl _ _,0,none,0,[],Nat.zero_le _,rfl,HS0.out,by simpa using RwL.nil _ _⟩
    case round =>
     clear hbwr hOwr HS0;obtain ⟨hzr,hbr,hkr,i,S,cS,xs,hi,rfl,hO,hRw⟩:=hrel
     by_cases hlt2:i<L
     · obtain ⟨row,gb,go_,Ag,ng,cg,hrow,rfl,hcg,hrc,hng,hcg2⟩:=(HG4.out.le (Qat _ _)).at_ hlt2
       obtain ⟨l,hl,hrowl⟩:∃ l,ls[i]?=some l∧row=Qaf N.ar l:=by
        unfold Qac at hrow;rw [Yt] at hrow
        cases e:ls[i]? with
        | none=>rw [e] at hrow;cases hrow
        | some l=>rw [e] at hrow;cases hrow;exact ⟨l,rfl,rfl⟩
       have hlo:=HP.out.lvl l (Zm hl)
       have hnn:ng≤4096:=by
        rw [←hrc.1,hrowl,Qan];have:=Qch (l:=l) (n:=(n:Int)) (fun x hx=>hlo.hi x hx) (by omega);omega
       have hcg':=Zc hbr (Zn _) hcg;have HSB:=Zh (show ∀ k,Qdv (row.take k)≤4096*268435456 from fun k=>by rw [hrowl];exact Qvs (by rw [HML.out];exact HM.out) hlo hn4)
       have HCB:=Zh (show ∀ (c:Nat) (x:Qak),row[c]?=some x→x.1.length≤16384∧x.2.length≤16384 from fun c x hx=>by
        have h0:=HM.out;rw [hrowl] at hx;have:=Qbi hx;rw [HML.out] at this;omega)
       have hsA:=sumA_le (ar:=N.ar) (ls:=ls) (i:=i) (by rw [HML.out];exact HM.out) HP.out hn4;have HSN:=Zh (Qdc hrow);have HSG:=Zh (Qoo hrow);have HRC:=Zh hrc;have HRL:=Zh hrc.1;generalize hss:Qbx ((Qac N.ar ls).take i)=sA at *;clear hss;have hmk:=Qde ng (by omega);have i1:(0:Int)≤(i:Int):=by omega
       have i2:(i:Int)<(L:Int):=by omega
       obtain ⟨wi,hwi⟩:∃ wi,wi=wr:=⟨_,rfl⟩;subst hwi;clear hrow hcg hrc hng hlo hl hrowl
       go_wp2_with fail
       (refine Qai ?_;intro w7 hw7)
       have hb7:Below wi.heap.size wi w7:=by rw [hw7];exact Qah
       have hB7:Blk w7 wi.heap.size 3 (Qcj ((Qhn sA row).take 0 ++List.replicate (ng-0) 0)):=by rw [hw7,List.take_zero,List.nil_append,Nat.sub_zero,←Qcf];exact Blk.new _ _ _
       have hz7:wi.heap.size+1=w7.heap.size:=by rw [hw7];simp
       clear hw7 hmk;have hO7:=hO.below hb7 hO.lt;have hz4i:=hO.lt
       go_loopw [72] (fun q W=>wi.heap.size+1≤W.heap.size∧Below w4.heap.size w4 W∧Qbc (fun b=>b≠w4.heap.size∧b<wi.heap.size) wi W∧∃ k:Nat,k≤ng∧q=.int .i64 k∧Blk W w4.heap.size 208 #[.slice Q3 L cq3,.slice F M cF,.slice T M cT,.slice (some ⟨gb,go_,none⟩) L L,.slice S i cS,.int .i64 ((sA+Qdv (row.take k):Nat):Int)]∧Blk W wi.heap.size 3 (Qcj ((Qhn sA row).take k ++List.replicate (ng-k) 0))) (fun q _=>ng-(intOf q).toNat)
       case atStart=>exact ⟨by omega,hbr.trans (hb7.mono (by omega)),Qbc.below hb7,0,Nat.zero_le _,rfl,by simpa [Qdv] using hO7,hB7⟩
       case round =>
        clear hB7 hO7 hz7 hb7;obtain ⟨hzk,hbk,hkk,k,hk,rfl,hOk,hBk⟩:=hrel
        by_cases hlt3:k<ng
        · obtain ⟨x,gb',go',A1,n1,c1,A2,n2,c2,hx,eg,cc1,hr1,cc2,hr2,_⟩:=HRC.out.at_ hlt3
          subst eg;have hb1:=HCB.out k x hx;have hn1:n1≤16384:=by rw [←hr1.1];exact hb1.1
          have hn2:n2≤16384:=by rw [←hr2.1];exact hb1.2
          have HSZ:=Zh (show Qdv (row.take (k+1))=Qdv (row.take k)+n1*n2 by
           rw [Qdf hx];unfold szG;rw [hr1.1,hr2.1])
          have hP:n1*n2≤268435456:=Yx (Nat.mul_le_mul hn1 hn2) (by omega);have hsk:=HSB.out k;have cc1':=Zc hbk (Zn _) cc1;have cc2':=Zc hbk (Zn _) cc2;have HSTN:=Zh (Qum (s:=sA) (row:=row) (j:=k) (by rw [HRL.out];exact hlt3));rw [HRL.out] at HSTN;obtain ⟨v0,hv0⟩:∃ v,((Qhn sA row).take k ++List.replicate (ng-k) (0:Int))[k]?=some v:=⟨_,Zg (by rw [Yp,Yw,Qfa,HRL.out,List.length_replicate];omega)⟩;have cb:=hBk.cellI hv0;have cbf:=hBk.frozen k;have e1:(n1:Int)*(n2:Int)=((n1*n2:Nat):Int):=by simp
          generalize hPP:n1*n2=P at *;generalize hKK:Qdv (row.take k)=K at *;clear hPP hKK;have HSTN2:=HSTN;clear HSTN;obtain ⟨Z,hZ⟩:∃ Z,Z=sA+K:=⟨_,rfl⟩;rw [←hZ] at HSTN2 hOk;have hZb:Z≤7*(4096*268435456):=by omega
          have HZ:=Zh hZ;clear hZ;have e2:IntKind.i64.wrap (P:Int)=(P:Int):=IntWalk.i64_in _ (by omega);have e3:IntKind.i64.wrap ((Z:Int)+(P:Int))=(Z:Int)+(P:Int):=IntWalk.i64_in _ (by omega);have HB2:=Zh (hBk.setI HSTN2.out);have j1:(0:Int)≤(k:Int):=by omega
          have j2:(k:Int)<(ng:Int):=by omega
          obtain ⟨W8,hW8⟩:∃ W8,W8=(wr.setCell ⟨wi.heap.size,k,none⟩ (.int .i64 (Z:Int))).alloc (.cells #[.slice A1 n1 c1,.slice A2 n2 c2] 135):=⟨_,rfl⟩;have hX8:Blk W8 wr.heap.size 135 #[.slice A1 n1 c1,.slice A2 n2 c2]:=by rw [hW8];exact Blk.new' _ _ _ (by simp [World.setCell])
          have hO8:Blk W8 w4.heap.size 208 #[.slice Q3 L cq3,.slice F M cF,.slice T M cT,.slice (some ⟨gb,go_,none⟩) L L,.slice S i cS,.int .i64 (Z:Int)]:=by rw [hW8];exact (hOk.far_ (by omega) _).alloc _
          have hB8:Blk W8 wi.heap.size 3 (Qcj ((Qhn sA row).take (k+1) ++List.replicate (ng-(k+1)) 0)):=by rw [hW8];exact HB2.out.alloc _
          have hb8:Below w4.heap.size w4 W8:=by rw [hW8];exact (hbk.setCell (by simp only;omega) _).alloc (by simp [World.setCell];omega) _
          have hk8:Qbc (fun b=>b≠w4.heap.size∧b<wi.heap.size) wi W8:=by
           have hset:Qbc (fun b=>b≠w4.heap.size∧b<wi.heap.size) wr (wr.setCell ⟨wi.heap.size,k,none⟩ (.int .i64 (Z:Int))):=Qbc.set _ _ _ _ (fun hG=>by omega);have hall:Qbc (fun b=>b≠w4.heap.size∧b<wi.heap.size) (wr.setCell ⟨wi.heap.size,k,none⟩ (.int .i64 (Z:Int))) W8:=by rw [hW8];exact Qbc.below ((Zr _ _).alloc (Zn _) _)
           exact (hkk.trans hset (by omega)).trans hall (by simp [World.setCell];omega)
          have hz8:wi.heap.size+1≤W8.heap.size:=by rw [hW8];simp [World.setCell];omega
          have HW8:=Zh hW8;have HX8:=Zh hX8;have o5a:=hOk.six.2.2.2.2.2;have zb:=hBk.lt;have zo:=hOk.lt;clear hx hr1 hr2 cc1 cc2 hW8 hOk hBk hv0 hbk hkk HB2 hX8
          go_wp2_with fail
          rw [←HW8.out];clear o5a zb zo;have hX8:=HX8.out;have hlt8:=hX8.lt;have HSX:=Zh (show ∀ V,Blk V wr.heap.size 135 #[.slice A1 n1 c1,.slice A2 n2 c2]→V.cell? ⟨wr.heap.size,0,none⟩=some (.slice A1 n1 c1)∧V.cell? ⟨wr.heap.size,1,none⟩=some (.slice A2 n2 c2) from fun V hV=>⟨hV.two.1,hV.two.2.1⟩)
          refine wp_region_held_drew (S:=fun V=>Blk V wr.heap.size 135 #[.slice A1 n1 c1,.slice A2 n2 c2]) (by kernel_rfl) hX8.drew (fun _=>?_);refine tz 0 84 ?_;refine tz 1 85 ?_;refine tz 2 86 ?_;refine tz 4 88 ?_;refine tz 5 89 ?_;refine tz 6 90 ?_;refine tz 7 91 ?_;refine tz 8 92 ?_;refine tz 9 93 ?_;refine tz 10 94 ?_;obtain ⟨o0,o1,o2,o3,o4,o5⟩:=hO8.six;refine Zk 3 (fun K hK=>?_);go_simp;refine hK.out _ _ hX8.drew (fun _=>?_);clear hK;refine tz 11 95 ?_;refine tz 12 96 ?_;refine tz 13 97 ?_;have of:=hO8.frozen 5;refine Zk 14 (fun K hK=>?_);go_simp;refine hK.out _ _ (hX8.far_ (by omega) _) (fun _=>?_);clear hK;refine Zd ?_;have HO9:=Zh (show Blk ((W8.setCell ⟨w4.heap.size,5,none⟩ (.int .i64 ((Z:Int)+(P:Int)))).drew) w4.heap.size 208 #[.slice Q3 L cq3,.slice F M cF,.slice T M cT,.slice (some ⟨gb,go_,none⟩) L L,.slice S i cS,.int .i64 ((Z:Int)+(P:Int))] from hO8.set_ 5 _)
          have HB9:=Zh (hB8.far_ (b:=w4.heap.size) (o:=5) (by omega) (.int .i64 ((Z:Int)+(P:Int))));have HE9:=Zh (show (((sA+Qdv (row.take (k+1)):Nat)):Int)=(Z:Int)+(P:Int) by have:=HSZ.out;have:=HZ.out;omega)
          have HK9:=Zh (hk8.trans (Qbc.set W8 w4.heap.size 5 (.int .i64 ((Z:Int)+(P:Int))) (fun hG=>hG.1 rfl)) (by omega));have HL9:=Zh (hb8.setCell (p:=⟨w4.heap.size,5,none⟩) (by simp) (.int .i64 ((Z:Int)+(P:Int))));clear hO8 hB8 hk8 hb8 o0 o1 o2 o3 o4 o5 of hX8
          go_wp2_with fail
          go_roundw
          case rel=>exact ⟨by simp [World.setCell];omega,HL9.out.drew,HK9.out,k+1,by omega,by go_num,by rw [HE9.out];exact HO9.out,HB9.out⟩
          case measure=>simp [intOf];omega
        · obtain rfl:ng=k:=by omega
          rw [Yy,List.replicate_zero,List.append_nil,Ye (by rw [Qfa,HRL.out];exact Zn _)] at hBk;rw [Ye (by rw [HRL.out];exact Zn _)] at hOk;have hRk:=hRw.keep (by omega) (fun b h1 h2=>hkk b ⟨by omega,h2⟩ h2);have hSl:∀ b,Qab S=some b→b<wi.heap.size:=fun b hb=>(hRw.1.lt b hb).2
          obtain ⟨W1,hW1⟩:∃ W1,W1=wr.alloc (.cells #[.slice (some ⟨wi.heap.size,0,none⟩) ng ng] 61):=⟨_,rfl⟩;have hbA:Below wr.heap.size wr W1:=by rw [hW1];exact Qah
          have hRA:=hRk.below hbA;have hOA:=hOk.below hbA hOk.lt;have hrA:Rds W1 1 (some ⟨wr.heap.size,0,none⟩) 1 [.slice (some ⟨wi.heap.size,0,none⟩) ng ng]:=by rw [hW1];exact (Blk.new wr 61 #[.slice (some ⟨wi.heap.size,0,none⟩) ng ng]).rds rfl
          have hrI:RdI W1 (some ⟨wi.heap.size,0,none⟩) ng (Qhn sA row):=(hBk.below hbA hBk.lt).rdI (by rw [Qfa];exact HRL.out);have hLt:=hBk.lt;have hbA4:Below w4.heap.size w4 W1:=hbk.trans (hbA.mono (by omega));have hszA:wo.heap.size≤W1.heap.size:=by have:=hbA.size;omega
          have hzA:=hbA.size;have hKA:Qbc (fun b=>b≠w4.heap.size∧b<wo.heap.size) wo W1:=(hkr.trans (hkk.mono (fun b hb=>⟨hb.1,by omega⟩)) (by omega)).trans ((Qbc.below hbA).mono (fun b hb=>hb)) (by omega);have hoS:=hRA.1;obtain ⟨o0,o1,o2,o3,o4,o5⟩:=hOk.six;have zo:=hOk.lt;have HSNN:=Zh (show ((Qbx ((Qac N.ar ls).take (i+1)):Nat):Int)=((sA+Qdv row:Nat):Int) by rw [HSN.out])
          have HW1:=Zh hW1;clear hBk hRk hW1 hRw hO hkk hkr hbk hbr
          go_wp2_with (at_builtin;rw [←HW1.out];with_reducible refine Qal rfl (.tmp 103) (.tmp 105) 27 rfl 61 _ 1 24 Qhd underlying27 rfl (by omega) rfl rfl hoS hrA (Qcr _ _ _) (by omega) (by omega) (by omega) ?_)
          intro A' c' w' hown' hg hat;have hO':=hOA.grown hg (hoS.ne (by omega));have hb4':Below w4.heap.size w4 w':=Zo hbA4 hg (hoS.mono (by omega)) (by omega);have hz':=hg.size
          have HR':=Zh ((hRA.push hown' hg hat hrI (fun q hq=>by
           have e:=Qgu hq;subst e;exact ⟨by omega,by omega,fun e=>by have:=hSl _ e;omega⟩) (Zn _) (by omega)).far (Qad w' w4.heap.size 4 (.slice A' (i+1) c')) (by omega))
          have HK':=Zh ((hKA.trans (Qbc.grown hg (fun b hb e=>by have:=(hoS.lt b e).1;omega)) (by omega)).trans (Qbc.set w' w4.heap.size 4 (.slice A' (i+1) c') (fun hG=>hG.1 rfl)) (by omega));have HO':=Zh (show Blk (w'.setCell ⟨w4.heap.size,4,none⟩ (.slice A' (i+1) c')) w4.heap.size 208 #[.slice Q3 L cq3,.slice F M cF,.slice T M cT,.slice (some ⟨gb,go_,none⟩) L L,.slice A' (i+1) c',.int .i64 ((Qbx ((Qac N.ar ls).take (i+1)):Nat):Int)] from by rw [HSNN.out];exact hO'.set_ 4 _)
          have HL':=Zh (hb4'.setCell (p:=⟨w4.heap.size,4,none⟩) (by simp) (.slice A' (i+1) c'));obtain ⟨_,_,_,_,o4',_⟩:=hO'.six;have of':=hO'.frozen 4;clear hRA hOA hrA hrI hbA4 hKA hoS o0 o1 o2 o3 o4 o5 hown' hg hat hO' hb4' hbA
          go_wp2_with fail
          go_roundw
          case rel=>exact ⟨by simp [World.setCell];omega,HL'.out,HK'.out,i+1,A',c',_,by omega,by go_num,HO'.out,by rw [Yf (Zs HSG.out).1,(Zs HSG.out).2];exact HR'.out⟩
          case measure=>simp [intOf];omega
     · obtain rfl:L=i:=by omega
       have hgl:(Qac N.ar ls).length=L:=by simp [Qac];exact HT.out.1
       rw [Ye (by rw [Qwg,hgl];exact Zn _)] at hRw;rw [Ye (by rw [hgl];exact Zn _)] at hO;have hz4:=hbw4.size;have hzo:=hO.lt
       have HOV:=Zh (show Qfy (msk wr (fun b=>w.heap.size≤b∧b<wr.heap.size)) w4.heap.size N.ar ls from by
        have hk4:Le (msk w4 (fun b=>w.heap.size≤b∧b<w4.heap.size)) (msk wr (fun b=>w.heap.size≤b∧b<wr.heap.size)) :=
         Le.trans (Qbc.msk (W':=wr) (fun b hb _=>hbr.block b hb.2)) (Qbk (fun b hb=>⟨hb.1,by omega⟩))
        have own:∀ (A:Option Addr) (c:Nat) (l:List Int),Own wo (w4.heap.size+1) 3 1 A M c (Qag l)→RdI (msk wr (fun b=>w.heap.size≤b∧b<wr.heap.size)) A M l:=fun A c l ho =>
         (ho.rds.rdI.keepB (fun b hb=>hkr b ⟨by have:=(ho.lt b hb).1;omega,(ho.lt b hb).2⟩ (ho.lt b hb).2)).msk (fun b hb=>⟨by have:=(ho.lt b hb).1;omega,by have:=(ho.lt b hb).2;omega⟩)
        obtain ⟨o0,o1,o2,o3,o4,o5⟩:=hO.six;have hc:∀ {k:Nat} {v:Value},wr.cell? ⟨w4.heap.size,k,none⟩=some v→(msk wr (fun b=>w.heap.size≤b∧b<wr.heap.size)).cell? ⟨w4.heap.size,k,none⟩=some v:=fun h=>Qba.2 ⟨⟨by omega,by omega⟩,h⟩
        exact ⟨_,_,_,_,_,_,_,_,_,_,_,_,hc o0,hc o1,hc o2,hc o3,hc o4,hc o5,HQ4.out.le hk4,own _ _ _ HOF.out,own _ _ _ HOT.out,HG4.out.le hk4,hRw.rdM (fun b h1 h2=>⟨by omega,h2⟩),HCQ.out⟩)
       have HBF:=Zh (hbw4.trans (hbr.mono (by omega)));clear hO hRw hbr hkr
       go_wp2_with fail
       go_ret2
       exact ⟨_,rfl,HOV.out,HBF.out⟩
set_option maxHeartbeats 4000000 in
set_option maxRecDepth 20000 in
theorem Qtp (Q:Option Addr)(L cq:Nat) (ls:List (List Int)) (w:World) (h:RdT w Q L ls) (hL:L≤1000000) (hc:∀ l∈ls,l.length≤1000000) :
 Calls prog 90 #[.agg #[.slice Q L cq]] w fun r w'=>∃ Q' cq',r=.returned (.agg #[.slice Q' L cq'])∧RdT (msk w' (fun b=>w.heap.size≤b∧b<w'.heap.size)) Q' L ls∧L≤cq'∧cq'≤9223372036854775807∧Below w.heap.size w w':=by
 have HT:=Zh h;have HC:=Zh hc;clear h hc
 go_enter func90,ntmps90
 go_wp2_with fail
 (refine Qai ?_;intro w1 hw1)
 have hb1:Below w.heap.size w w1:=by rw [hw1];exact Qah
 have hJ:Blk w1 w.heap.size 29 #[.slice Q L cq]:=by rw [hw1];exact Qbh
 have hR:Blk w1 (w.heap.size+1) 132 #[.slice none 0 0]:=by rw [hw1];exact Qbh
 have hK0:Blk w1 (w.heap.size+2) 132 #[.slice none 0 0]:=by rw [hw1];exact Qbh
 clear hw1
 go_loopw [4] (fun i W=>Below w.heap.size w W∧Blk W w.heap.size 29 #[.slice Q L cq]∧Blk W (w.heap.size+1) 132 #[.slice none 0 0]∧∃ (j:Nat) (A3:Option Addr) (c3:Nat) (xs:List Value),j≤L∧i=.int .i64 j∧Blk W (w.heap.size+2) 132 #[.slice A3 j c3]∧RwL W (w.heap.size+3) A3 j c3 xs (ls.take j)) (fun i _=>L-(intOf i).toNat)
 case atStart=>exact ⟨hb1,hJ,hR,0,none,0,[],Nat.zero_le _,rfl,hK0,by simpa using RwL.nil _ _⟩
 case round =>
  clear hb1 hJ hR hK0;obtain ⟨hbl,hJ,hR,j,A3,c3,xs,hj,rfl,hK0,hown⟩:=hrel;have j0:=hJ.cell 0;simp only [Yo,Yn] at j0
  by_cases hlt:j<L
  · obtain ⟨sb,so,Ar,m,cr,l,rfl,hl,hcl,hr,hq1,hq2⟩:=HT.out.at_ hlt
    have HN:=Zh (show ls.take (j+1)=ls.take j ++[l] by
     rw [Yf (Zs hl).1,(Zs hl).2])
    have hm:m≤1000000:=by have:=HC.out l (Zm hl);rw [hr.1] at this;exact this
    have dcl:=Zc hbl (Zn _) hcl;have HSB:=Zh (Qaj hcl);have HRR:=Zh (hr.below hbl);have i3:(0:Int)≤(j:Int):=by omega
    have i4:(j:Int)<(L:Int):=by omega
    have hsz:w.heap.size+3≤wr.heap.size:=by have:=hK0.lt;omega
    clear hr hl hcl hq1 hq2
    have HSX:=Zh (show ∀ V,Below (w.heap.size+2) wr V→V.cell? ⟨w.heap.size,0,none⟩=some (.slice (some ⟨sb,so,none⟩) L cq)∧V.cell? ⟨sb,so+j,none⟩=some (.slice Ar m cr) from
     fun V hb=>⟨(hb.cell (by simp only;omega)).trans j0,(hb.cell (by have:=Qaj dcl;have:=HSB.out;simp only at this ⊢;omega)).trans dcl⟩)
    go_wp2_with fail
    refine wp_region_held_drew (S:=fun V=>Below (w.heap.size+2) wr V) (by kernel_rfl) (Zr _ _).drew (fun _=>?_);refine tz 0 12 ?_;refine tz 3 15 ?_;refine tz 4 16 ?_;refine tz 5 17 ?_;refine tz 6 18 ?_;refine tz 7 19 ?_;refine wpAnyH_ready (rs:=[1,2]) (by kernel_rfl) (by simp) ?_;refine AllReadyH.cons (o:=_) rfl (fun K hK=>?_) (AllReadyH.cons (o:=_) rfl (fun K hK=>?_) AllReadyH.nil)
    · have k3a:=hK0.cell 0
      simp only [Yo,Yn] at k3a;go_simp;refine hK.out _ _ (Zr _ _).drew (fun _=>?_);clear hK K k3a;refine Zk 2 (fun K hK=>?_);go_simp;refine hK.out _ _ (((Zr _ _).alloc (by omega) _).drew) (fun _=>?_);clear hK K;obtain ⟨W3,hW3⟩:∃ W3,W3=(wr.alloc (.cells #[] 3)).drew:=⟨_,rfl⟩;rw [←hW3];have hbr3:Below wr.heap.size wr W3:=by rw [hW3];exact Qah
      have hown0:Own W3 wr.heap.size 3 1 (some ⟨wr.heap.size,0,none⟩) 0 0 []:=by rw [hW3];exact lit0 (Zn _)
      have hrd0:=(HRR.out.below hbr3).rdsI;have hz3:=hbr3.size;clear hW3;refine Zk 8 (fun K hK=>?_);with_reducible refine Qay (some 20) rfl rfl (.tmp 14) (.tmp 19) 61 rfl 3 _ 1 8 Qbm underlying61 rfl (by omega) rfl rfl hown0 hrd0 (Qao _) (by omega) (by omega) (by omega) ?_
      intro A2 c2 w4 hrc hg4 _;have hbr4:Below wr.heap.size wr w4:=Zo hbr3 hg4 hown0 (by omega);simp only [Yz,List.nil_append] at hrc;clear hg4 hown0 hrd0;refine hK.out _ _ (hbr4.mono (by omega)) (fun _=>?_);clear hK K;simp only [Act.put,Yi,Yj,Yk,Yz];refine Zk 9 (fun K hK=>?_);go_simp;refine hK.out _ _ (Below.alloc (hbr4.mono (by omega)) (by have:=hbr4.size;omega) _) (fun _=>?_);clear hK K;obtain ⟨W,hW⟩:∃ W,W=w4.alloc (.cells #[.slice A2 m c2] 61):=⟨_,rfl⟩;rw [←hW];have hb4W:Below w4.heap.size w4 W:=by rw [hW];exact Qah
      have hrdW:Rds W 1 (some ⟨w4.heap.size,0,none⟩) 1 [.slice A2 m c2]:=by rw [hW];exact (Blk.new w4 61 #[.slice A2 m c2]).rds rfl
      clear hW;have hbrW:Below wr.heap.size wr W:=Zb hbr4 hb4W;have hcW:=hrc.rds.rdI.below hb4W;have hloW:∀ g,Qab A2=some g→wr.heap.size≤g∧g<W.heap.size:=fun g hg=>⟨(hrc.lt g hg).1,Yu (hrc.lt g hg).2 hb4W.size⟩
      have hcapW:=hrc.cap;have hcapM:=hrc.capMax;have hbrW:Below wr.heap.size wr W:=hbrW;have hyW:=hown.below hbrW;have hbW:Below (w.heap.size+2) wr W:=hbrW.mono (by omega);have hblW:Below w.heap.size w W:=Zb hbl hbrW;have hJW:=hJ.below hbrW hJ.lt;have hRW:=hR.below hbrW hR.lt;have hKW:=hK0.below hbrW hK0.lt
      have hclW:∀ g,Qab A2=some g→w.heap.size+3≤g∧g<W.heap.size∧Qab A3≠some g:=fun g hg=>by
       exact Kao
      have hWsz:w.heap.size+3≤W.heap.size:=by have:=hbrW.size;omega
      exact Kab
    · go_simp
      refine hK.out _ _ (((Zr _ _).alloc (by omega) _).drew) (fun _=>?_);clear hK K;obtain ⟨W3,hW3⟩:∃ W3,W3=(wr.alloc (.cells #[] 3)).drew:=⟨_,rfl⟩;rw [←hW3];have hbr3:Below wr.heap.size wr W3:=by rw [hW3];exact Qah
      have hown0:Own W3 wr.heap.size 3 1 (some ⟨wr.heap.size,0,none⟩) 0 0 []:=by rw [hW3];exact lit0 (Zn _)
      have hrd0:=(HRR.out.below hbr3).rdsI;have hz3:=hbr3.size;clear hW3;refine wpAnyH_ready (rs:=[1,8]) (by kernel_rfl) (by simp) ?_;refine AllReadyH.cons (o:=_) rfl (fun K hK=>?_) (AllReadyH.cons (o:=_) rfl (fun K hK=>?_) AllReadyH.nil)
      · have k3a:W3.cell? ⟨w.heap.size+2,0,none⟩=some (.slice A3 j c3):=(hK0.below hbr3 hK0.lt).cell 0
        go_simp;refine hK.out _ _ (hbr3.mono (by omega)) (fun _=>?_);clear hK K k3a;refine Zk 8 (fun K hK=>?_);with_reducible refine Qay (some 20) rfl rfl (.tmp 14) (.tmp 19) 61 rfl 3 _ 1 8 Qbm underlying61 rfl (by omega) rfl rfl hown0 hrd0 (Qao _) (by omega) (by omega) (by omega) ?_
        intro A2 c2 w4 hrc hg4 _;have hbr4:Below wr.heap.size wr w4:=Zo hbr3 hg4 hown0 (by omega);simp only [Yz,List.nil_append] at hrc;clear hg4 hown0 hrd0;refine hK.out _ _ (hbr4.mono (by omega)) (fun _=>?_);clear hK K;simp only [Act.put,Yi,Yj,Yk,Yz];refine Zk 9 (fun K hK=>?_);go_simp;refine hK.out _ _ (Below.alloc (hbr4.mono (by omega)) (by have:=hbr4.size;omega) _) (fun _=>?_);clear hK K;obtain ⟨W,hW⟩:∃ W,W=w4.alloc (.cells #[.slice A2 m c2] 61):=⟨_,rfl⟩;rw [←hW];have hb4W:Below w4.heap.size w4 W:=by rw [hW];exact Qah
        have hrdW:Rds W 1 (some ⟨w4.heap.size,0,none⟩) 1 [.slice A2 m c2]:=by rw [hW];exact (Blk.new w4 61 #[.slice A2 m c2]).rds rfl
        clear hW;have hbrW:Below wr.heap.size wr W:=Zb hbr4 hb4W;have hcW:=hrc.rds.rdI.below hb4W;have hloW:∀ g,Qab A2=some g→wr.heap.size≤g∧g<W.heap.size:=fun g hg=>⟨(hrc.lt g hg).1,Yu (hrc.lt g hg).2 hb4W.size⟩
        have hcapW:=hrc.cap;have hcapM:=hrc.capMax;have hbrW:Below wr.heap.size wr W:=hbrW;have hyW:=hown.below hbrW;have hbW:Below (w.heap.size+2) wr W:=hbrW.mono (by omega);have hblW:Below w.heap.size w W:=Zb hbl hbrW;have hJW:=hJ.below hbrW hJ.lt;have hRW:=hR.below hbrW hR.lt;have hKW:=hK0.below hbrW hK0.lt
        have hclW:∀ g,Qab A2=some g→w.heap.size+3≤g∧g<W.heap.size∧Qab A3≠some g:=fun g hg=>by
         exact Kao
        have hWsz:w.heap.size+3≤W.heap.size:=by have:=hbrW.size;omega
        exact Kab
      · with_reducible refine Qay (some 20) rfl rfl (.tmp 14) (.tmp 19) 61 rfl 3 _ 1 8 Qbm underlying61 rfl (by omega) rfl rfl hown0 hrd0 (Qao _) (by omega) (by omega) (by omega) ?_
        intro A2 c2 w4 hrc hg4 _;have hbr4:Below wr.heap.size wr w4:=Zo hbr3 hg4 hown0 (by omega);simp only [Yz,List.nil_append] at hrc;clear hg4 hown0 hrd0;refine hK.out _ _ (hbr4.mono (by omega)) (fun _=>?_);clear hK K;simp only [Act.put,Yi,Yj,Yk,Yz];refine wpAnyH_ready (rs:=[1,9]) (by kernel_rfl) (by simp) ?_;refine AllReadyH.cons (o:=_) rfl (fun K hK=>?_) (AllReadyH.cons (o:=_) rfl (fun K hK=>?_) AllReadyH.nil)
        · have k3a:w4.cell? ⟨w.heap.size+2,0,none⟩=some (.slice A3 j c3):=(hK0.below hbr4 hK0.lt).cell 0
          go_simp;refine hK.out _ _ (hbr4.mono (by omega)) (fun _=>?_);clear hK K k3a;refine Zk 9 (fun K hK=>?_);go_simp;refine hK.out _ _ (Below.alloc (hbr4.mono (by omega)) (by have:=hbr4.size;omega) _) (fun _=>?_);clear hK K;obtain ⟨W,hW⟩:∃ W,W=w4.alloc (.cells #[.slice A2 m c2] 61):=⟨_,rfl⟩;rw [←hW];have hb4W:Below w4.heap.size w4 W:=by rw [hW];exact Qah
          have hrdW:Rds W 1 (some ⟨w4.heap.size,0,none⟩) 1 [.slice A2 m c2]:=by rw [hW];exact (Blk.new w4 61 #[.slice A2 m c2]).rds rfl
          clear hW;have hbrW:Below wr.heap.size wr W:=Zb hbr4 hb4W;have hcW:=hrc.rds.rdI.below hb4W;have hloW:∀ g,Qab A2=some g→wr.heap.size≤g∧g<W.heap.size:=fun g hg=>⟨(hrc.lt g hg).1,Yu (hrc.lt g hg).2 hb4W.size⟩
          have hcapW:=hrc.cap;have hcapM:=hrc.capMax;have hbrW:Below wr.heap.size wr W:=hbrW;have hyW:=hown.below hbrW;have hbW:Below (w.heap.size+2) wr W:=hbrW.mono (by omega);have hblW:Below w.heap.size w W:=Zb hbl hbrW;have hJW:=hJ.below hbrW hJ.lt;have hRW:=hR.below hbrW hR.lt;have hKW:=hK0.below hbrW hK0.lt
          have hclW:∀ g,Qab A2=some g→w.heap.size+3≤g∧g<W.heap.size∧Qab A3≠some g:=fun g hg=>by
           exact Kao
          have hWsz:w.heap.size+3≤W.heap.size:=by have:=hbrW.size;omega
          exact Kab
        · go_simp
          refine hK.out _ _ (Below.alloc (hbr4.mono (by omega)) (by have:=hbr4.size;omega) _) (fun _=>?_);clear hK K;have k3a:∀ o,(w4.alloc o).cell? ⟨w.heap.size+2,0,none⟩=some (.slice A3 j c3):=fun o=>((hK0.below hbr4 hK0.lt).alloc o).cell 0
          refine Zk 1 (fun K hK=>?_);go_simp;refine hK.out _ _ (Below.alloc (hbr4.mono (by omega)) (by have:=hbr4.size;omega) _) (fun _=>?_);clear hK K;clear k3a;obtain ⟨W,hW⟩:∃ W,W=w4.alloc (.cells #[.slice A2 m c2] 61):=⟨_,rfl⟩;rw [←hW];have hb4W:Below w4.heap.size w4 W:=by rw [hW];exact Qah
          have hrdW:Rds W 1 (some ⟨w4.heap.size,0,none⟩) 1 [.slice A2 m c2]:=by rw [hW];exact (Blk.new w4 61 #[.slice A2 m c2]).rds rfl
          clear hW;have hbrW:Below wr.heap.size wr W:=Zb hbr4 hb4W;have hcW:=hrc.rds.rdI.below hb4W;have hloW:∀ g,Qab A2=some g→wr.heap.size≤g∧g<W.heap.size:=fun g hg=>⟨(hrc.lt g hg).1,Yu (hrc.lt g hg).2 hb4W.size⟩
          have hcapW:=hrc.cap;have hcapM:=hrc.capMax;have hbrW:Below wr.heap.size wr W:=hbrW;have hyW:=hown.below hbrW;have hbW:Below (w.heap.size+2) wr W:=hbrW.mono (by omega);have hblW:Below w.heap.size w W:=Zb hbl hbrW;have hJW:=hJ.below hbrW hJ.lt;have hRW:=hR.below hbrW hR.lt;have hKW:=hK0.below hbrW hK0.lt
          have hclW:∀ g,Qab A2=some g→w.heap.size+3≤g∧g<W.heap.size∧Qab A3≠some g:=fun g hg=>by
           exact Kao
          have hWsz:w.heap.size+3≤W.heap.size:=by have:=hbrW.size;omega
          exact Kab
  · obtain rfl:L=j:=by omega
    rw [Ye (by rw [HT.out.1];exact Zn _)] at hown;have q0:=hK0.cell 0;have r0:=hR.cell 0;simp only [Yo,Yn] at q0 r0;have f0:=hR.frozen 0;have hown2:=hown.far (Qad wr (w.heap.size+1) 0 (.slice A3 L c3)) (by omega);have HM:=Zh (hown2.rdM (G:=fun b=>w.heap.size≤b∧b<(wr.setCell ⟨w.heap.size+1,0,none⟩ (.slice A3 L c3)).heap.size) (fun b h1 h2=>⟨by omega,h2⟩));have HCP:=Zh (And.intro hown.1.cap hown.1.capMax);clear hown hown2 hR
    go_wp2_with fail
    refine bodyPost_ret (v:=.agg #[.slice A3 L c3]) (by simp [results,results90,go_sem,r0]) rfl ?_;exact ⟨A3,c3,rfl,HM.out,HCP.out.1,HCP.out.2,Qah⟩
set_option maxHeartbeats 1000000 in
theorem Qwu (A B C Q:Option Addr)(n m k c d e L cq:Nat)(N:Qam) (ls:List (List Int)) (w:World) (h:Qce w A B C n m k N) (hN:Qap N) (hq:RdT w Q L ls) (hP:Qaw N.vs.length ls) :
 Calls prog 40 #[.agg #[.slice A n c,.slice B m d,.slice C k e],.agg #[.slice Q L cq]] w fun r w'=>∃ o,r=.returned (.pointer (some ⟨o,0,none⟩))∧Qfy (msk w' (fun b=>w.heap.size≤b∧b<w'.heap.size)) o N.ar ls∧Below w.heap.size w w':=by
 have HH:=Zh h;have HN:=Zh hN;have HT:=Zh hq;have HP:=Zh hP;have hn4:=hN.lv;have l6:L≤6:=by rw [←hq.1];exact hP.l6
 have HVL:=Zh hn4;clear h hN hq hP hn4
 go_enter func40,ntmps40
 go_wp2_with fail
 (refine Qae ?_;intro w1 hw1)
 have hb1:Below w.heap.size w w1:=by rw [hw1];exact Qah
 have hQ:Blk w1 (w.heap.size+1) 29 #[.slice Q L cq]:=by rw [hw1];exact Qbh
 clear hw1;with_reducible refine (Qsv A B C n m k c d e N w1 (HH.out.below hb1) HN.out).mono ?_
 rintro r w2 ⟨g,rfl,hG,hb2⟩;have hbw2:=Zb hb1 hb2;have HG:=Zh hG.rd;have y0:=(hQ.below hb2 hQ.lt).cell 0;simp only [Yo,Yn] at y0;clear hG hb2 hQ
 go_wp2_with fail
 with_reducible refine (Qtp Q L cq ls w2 (HT.out.below hbw2) (by omega) (fun l hl=>by have:=(HP.out.lvl l hl).len;have:=HVL.out;omega)).mono ?_
 rintro r w3 ⟨Q3,cq3,rfl,hq3,_,_,hb3⟩;have hbw3:=Zb hbw2 hb3;have HQ3:=Zh (hq3.le (Qat _ _));have HG3:=Zh (HG.out.below hb3);clear hq3 hb3 y0
 go_wp2_with fail
 with_reducible refine (Quo g N Q3 L cq3 _ ls w3 HG3.out HN.out HQ3.out HP.out rfl).mono ?_
 rintro r w4 ⟨o,rfl,hO,hb4⟩;have hz3:=hbw3.size;have HO:=Zh (hO.le (Qbk (G':=fun b=>w.heap.size≤b∧b<w4.heap.size) (fun b hb=>⟨by omega,hb.2⟩)));have hbw4:=Zb hbw3 hb4;clear hO hb4
 go_wp2_with fail
 go_ret
 exact ⟨o,rfl,HO.out,hbw4⟩
end Go.Proofs.YtdheeddnkdhfeaaGreatDoor
