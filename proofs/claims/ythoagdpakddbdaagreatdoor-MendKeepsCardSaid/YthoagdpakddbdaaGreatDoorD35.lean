/- Parts of the proof: On. -/
import Derived.Test.YthoagdpakddbdaaGreatDoorD1
import Derived.Test.YthoagdpakddbdaaGreatDoorD16
namespace Go.Proofs.YthoagdpakddbdaaGreatDoor
open Go.RowKit Go.Proofs.Tryz
attribute [local go_sem ↓] Go.wp_at_zero Go.wp_at_succ
theorem Qgh {l:List Int}{j:Nat}{x:Int} (h:l[j]?=some x):Qad (l.take (j+1))=Qad (l.take j) ++Qad [x]:=by
 rw [List.take_succ_eq_append_getElem (Zs h).1,(Zs h).2,Qbx]
set_option maxHeartbeats 4000000 in
set_option maxRecDepth 20000 in
theorem Qtz (g:Nat)(N:Qaj)(Q:Option Addr)(L cq n:Nat) (ls:List (List Int)) (w:World) (h:Qgp w g N) (hN:Qau N) (hq:RdT w Q L ls) (hP:Qcg n ls) (hn:N.vs.length=n) :
 Calls prog 35 #[.pointer (some ⟨g,0,none⟩),.agg #[.slice Q L cq]] w fun e w'=>∃ o,e=.returned (.tuple #[.pointer (some ⟨o,0,none⟩),.nilIface])∧Qez (msk w' (fun b=>w.heap.size≤b∧b<w'.heap.size)) o N.ar ls∧Below w.heap.size w w':=by
 have HG:=Zh h;have HN:=Zh hN;have HT:=Zh hq;have HP:=Zh hP;have HVN:=Zh hn;have hn4:n≤4096:=by rw [←hn];exact hN.lv
 have HM:=Zh hN.la;have l6:L≤6:=by rw [←hq.1];exact hP.l6
 clear h hN hq hP hn
 go_enter func35,ntmps35
 go_wp2_with fail
 (refine Qag ?_;intro w1 hw1)
 have hb1:Below w.heap.size w w1:=by rw [hw1];exact Qae
 have hQ:Blk w1 w.heap.size 89 #[.slice Q L cq]:=by rw [hw1];exact Qay
 have hzz1:w.heap.size+1≤w1.heap.size:=by rw [hw1];simp
 clear hw1
 have HSX:=Zh (show ∀ V,Below w1.heap.size w1 V→V.cell? ⟨w.heap.size,0,none⟩=some (.slice Q L cq) from fun V hV=>by
  have:=(hQ.below hV hQ.lt).cell 0
  simpa using this)
 refine wp_region_held_drew (S:=fun V=>Below w1.heap.size w1 V) (by kernel_rfl) (Zr _ _).drew (fun _=>?_);refine tz 0 14 ?_;refine tz 2 16 ?_;refine Zk 1 (fun K hK=>?_);go_simp;with_reducible refine (Qmf g N _ (HG.out.below (show Below w.heap.size w w1.drew from Qae))).mono ?_
 rintro e w' ⟨rfl,rfl⟩;rw [HVN.out]
 go_wp2_with fail
 refine hK.out _ _ (Zr _ _).drew (fun _=>?_);clear hK K;refine Zk 3 (fun K hK=>?_);go_simp;with_reducible refine (Qis Q n L cq ls _ (HT.out.below (show Below w.heap.size w w1.drew from Qae)) HP.out hn4).mono ?_
 rintro e w2 ⟨rfl,hb2⟩;have hb12:Below w1.heap.size w1 w2:=Zb Qae hb2;clear hb2
 go_wp2_with fail
 refine hK.out _ _ hb12 (fun _=>?_);clear hK K;refine tz 4 6 ?_;refine Zd ?_;have hbw2:=Zb hb1 hb12
 go_wp2_with fail
 refine wp_region_held_drew (S:=fun V=>Below w1.heap.size w1 V) (by kernel_rfl) hb12.drew (fun _=>?_);refine tz 0 21 ?_;refine tz 2 23 ?_;refine tz 3 24 ?_;refine Zk 1 (fun K hK=>?_);go_simp;with_reducible refine (Qsb Q L cq ls _ (HT.out.below (show Below w.heap.size w w2.drew from Qae)) (by omega) (fun l hl=>by have:=(HP.out.lvl l hl).len;omega)).mono ?_
 rintro e w3 ⟨Q3,cq3,rfl,hq3,hq3a,hq3b,hb3⟩;have hb23:Below w2.heap.size w2 w3:=(Zr _ w2).drew.trans hb3;have hq3:RdT (msk w3 (fun b=>w2.heap.size≤b∧b<w3.heap.size)) Q3 L ls:=hq3;have hb13:Below w1.heap.size w1 w3:=Zb hb12 hb23;have hbw3:=Zb hbw2 hb23;clear hb3
 go_wp2_with fail
 refine hK.out _ _ hb13 (fun _=>?_);clear hK K;refine Zk 4 (fun K hK=>?_);go_simp;with_reducible refine (Qxb g N Q L cq n ls w3 (HG.out.below hbw3) HN.out (HT.out.below hbw3) HP.out HVN.out).mono ?_
 rintro e w4 ⟨G4,rfl,hg4,hb4⟩;have hb14:Below w1.heap.size w1 w4:=Zb hb13 hb4;have hbw4:=Zb hbw3 hb4
 go_wp2_with fail
 refine hK.out _ _ hb14 (fun _=>?_);clear hK K;refine tz 5 26 ?_;refine Zk 6 (fun K hK=>?_);go_simp;refine hK.out _ _ (Bel.alloc hb14) (fun _=>?_);clear hK K;refine tz 7 7 ?_;refine Zd ?_;obtain ⟨w5,hw5⟩:∃ w5,w5=w4.alloc (.cells #[.slice Q3 L cq3,.slice none 0 0,.slice none 0 0,.slice G4 L L,.slice none 0 0,.int .i64 0] 157):=⟨_,rfl⟩;rw [←hw5];have hb45:Below w4.heap.size w4 w5:=by rw [hw5];exact Qae
 have hO5:Blk w5 w4.heap.size 157 #[.slice Q3 L cq3,.slice none 0 0,.slice none 0 0,.slice G4 L L,.slice none 0 0,.int .i64 0]:=by rw [hw5];exact Blk.new _ _ _
 have hz5:w5.heap.size=w4.heap.size+1:=by rw [hw5];simp
 clear hw5 HSX hQ;have hz12:=hb12.size;have hz23:=hb23.size;have hz34:=hb4.size;have HQ4:=Zh (show RdT (msk w4 (fun b=>w.heap.size≤b∧b<w4.heap.size)) Q3 L ls from hq3.le (Le.trans (Qaz.msk (Qaz.below hb4 |>.mono (fun b hb=>hb))) (Qbd (fun b hb=>⟨by omega,by omega⟩))))
 have HG4:=Zh (show RdG (msk w4 (fun b=>w.heap.size≤b∧b<w4.heap.size)) G4 L (gatesOf N.ar ls) from hg4.le (Qbd (fun b hb=>⟨by omega,hb.2⟩)))
 have HCQ:=Zh (And.intro hq3a hq3b);clear hq3 hg4 hb4 hb23 hb12 hb13 hb14 hbw2 hbw3 hq3a hq3b
 go_wp2_with fail
 with_reducible refine (Qjo g N w5 (HG.out.below (Zb hbw4 hb45))).mono ?_
 rintro e w' ⟨rfl,rfl⟩;have hm:N.ar.length≤16384:=HM.out;generalize hMM:N.ar.length=M at *;have HML:=Zh hMM;clear hMM
 go_wp2_with fail
 go_loopw [30] (fun q W=>w4.heap.size+1≤W.heap.size∧Below w4.heap.size w4 W∧∃ (j:Nat) (F:Option Addr) (cF:Nat) (T:Option Addr) (cT:Nat),j≤M∧q=.int .i64 j∧Blk W w4.heap.size 157 #[.slice Q3 L cq3,.slice F j cF,.slice T j cT,.slice G4 L L,.slice none 0 0,.int .i64 0]∧Own W (w4.heap.size+1) 3 1 F j cF (Qad ((N.ar.map (·.1)).take j))∧Own W (w4.heap.size+1) 3 1 T j cT (Qad ((N.ar.map (·.2.1)).take j))∧Dj F T) (fun q _=>M-(intOf q).toNat)
 case atStart=>exact ⟨by omega,hb45,0,none,0,none,0,Nat.zero_le _,rfl,hO5,Own.nil _ _ _ _,Own.nil _ _ _ _,.inl rfl⟩
 case round =>
  clear hb45 hO5 hz5;obtain ⟨hzwr,hbwr,j,F,cF,T,cT,hj,rfl,hOwr,hoF,hoT,hdj⟩:=hrel
  by_cases hlt:j<M
  · obtain ⟨⟨x,y,z⟩,hx⟩:∃ x,N.ar[j]?=some x:=⟨_,Zg (by rw [HML.out];exact hlt)⟩
    have HNF:=Zh (Qgh (l:=N.ar.map (·.1)) (j:=j) (x:=x) (by rw [List.getElem?_map,hx];rfl));have HNT:=Zh (Qgh (l:=N.ar.map (·.2.1)) (j:=j) (x:=y) (by rw [List.getElem?_map,hx];rfl));have HFR:=Zh (show ∀ V,Below w4.heap.size w4 V→Calls prog 56 #[.pointer (some ⟨g,0,none⟩),.int .i64 j] V fun e w'=>e=.returned (.int .i64 x)∧V=w' from fun V hV=>Qiw g j N _ V (HG.out.below (Zb hbw4 hV)) hx)
    have HTO:=Zh (show ∀ V,Below w4.heap.size w4 V→Calls prog 57 #[.pointer (some ⟨g,0,none⟩),.int .i64 j] V fun e w'=>e=.returned (.int .i64 y)∧V=w' from fun V hV=>Qnx g j N _ V (HG.out.below (Zb hbw4 hV)) hx)
    have i1:(0:Int)≤(j:Int):=by omega
    have i2:(j:Int)<(M:Int):=by omega
    clear hx
    go_wp2_with fail
    refine wp_region_held_drew (S:=fun V=>Below w4.heap.size w4 V) (by kernel_rfl) hbwr.drew (fun _=>?_);refine tz 0 33 ?_;refine tz 1 34 ?_;refine tz 2 35 ?_;refine tz 3 36 ?_;refine tz 5 38 ?_;refine tz 6 39 ?_;refine wpAnyH_ready (rs:=[4,7]) (by kernel_rfl) (by simp) ?_;refine AllReadyH.cons (o:=_) rfl (fun K hK=>?_) (AllReadyH.cons (o:=_) rfl (fun K hK=>?_) AllReadyH.nil)
    · obtain ⟨o0,o1,o2,o3,o4,o5⟩:=hOwr.six
      go_simp;refine hK.out _ _ hbwr.drew (fun _=>?_);clear hK K o0 o1 o2 o3 o4 o5;refine Zk 7 (fun K hK=>?_);go_simp;with_reducible refine (HFR.out _ hbwr.drew).mono ?_
      rintro e w' ⟨rfl,rfl⟩
      go_wp2_with fail
      refine hK.out _ _ hbwr.drew (fun _=>?_);clear hK K;refine Zk 8 (fun K hK=>?_);go_simp;refine hK.out _ _ ((hbwr.alloc (by omega) _).drew) (fun _=>?_);clear hK K;obtain ⟨WA,hWA⟩:∃ WA,WA=(wr.alloc (.cells #[.int .i64 x] 3)).drew:=⟨_,rfl⟩;rw [←hWA];have hbA:Below wr.heap.size wr WA:=by rw [hWA];exact Qae
      have hrA:Rds WA 1 (some ⟨wr.heap.size,0,none⟩) 1 (Qad [x]):=by rw [hWA];exact (Blk.new wr 3 (Qcm [x])).rds rfl
      clear hWA;have hoA:=hoF.below hbA;have hoB:=hoT.below hbA;have hOA:=hOwr.below hbA hOwr.lt;have hb4A:Below w4.heap.size w4 WA:=hbwr.trans (hbA.mono (by omega));have hszA:w4.heap.size+1≤WA.heap.size:=Nat.le_trans hzwr hbA.size;refine Zk 9 (fun K hK=>?_);with_reducible refine Qal (some 42) rfl rfl (.tmp 37) (.tmp 41) 93 rfl 3 _ 1 8 Qaw underlying93 rfl (by omega) rfl rfl hoA hrA (Qah _) (by omega) (by omega) (by omega) ?_
      intro F2 cF2 w' hown' hg hat;have hO':=hOA.grown hg (hoA.ne (by omega));have hoB':=hoB.far hg hdj.far;have hDJ:=hdj.next hoB hat;have hb4':Below w4.heap.size w4 w':=Bel.grownOwn hb4A hg (hoA.mono (by omega)) (by omega);have hz':=hg.size;clear hOA hoA hoB hrA hg hat hbA hb4A;refine hK.out _ _ hb4' (fun _=>?_);clear hK K;simp only [Act.put,List.setIfInBounds_toArray,List.set_cons_zero,List.set_cons_succ];refine tz 10 43 ?_;refine tz 11 44 ?_;obtain ⟨o0,o1,o2,o3,o4,o5⟩:=hO'.six;have of:=hO'.frozen 1;refine Zk 12 (fun K hK=>?_);go_simp;refine hK.out _ _ (hb4'.setCell (by simp) _) (fun _=>?_);clear hK K;refine Zd ?_;obtain ⟨W6,hwW6⟩:∃ W6,W6=w'.setCell ⟨w4.heap.size,1,none⟩ (.slice F2 (j+1) cF2):=⟨_,rfl⟩;rw [←hwW6];have hOW6:Blk W6 w4.heap.size 157 #[.slice Q3 L cq3,.slice F2 (j+1) cF2,.slice T j cT,.slice G4 L L,.slice none 0 0,.int .i64 0]:=by rw [hwW6];exact hO'.set_ 1 _
      have hoAW6:Own W6 (w4.heap.size+1) 3 1 F2 (j+1) cF2 (Qad ((N.ar.map (·.1)).take (j+1))):=by rw [hwW6,HNF.out];exact hown'.far (Qaa _ _ _ _) (.inr (hown'.ne (by omega)))
      have hoBW6:=hoB'.far (Qaa w' w4.heap.size 1 (.slice F2 (j+1) cF2)) (.inr (hoB'.ne (by omega)));rw [←hwW6] at hoBW6;have hbW6:Below w4.heap.size w4 W6:=by rw [hwW6];exact hb4'.setCell (by simp) _
      have hzW6:w4.heap.size+1≤W6.heap.size:=by rw [hwW6];simp [World.setCell];omega
      clear hwW6 hO' hoB' hown' hb4' o0 o1 o2 o3 o4 o5 of hOwr hoF hoT hbwr
      go_wp2_with fail
      refine wp_region_held_drew (S:=fun V=>Below w4.heap.size w4 V) (by kernel_rfl) hbW6.drew (fun _=>?_);refine tz 0 45 ?_;refine tz 1 46 ?_;refine tz 2 47 ?_;refine tz 3 48 ?_;refine tz 5 50 ?_;refine tz 6 51 ?_;refine wpAnyH_ready (rs:=[4,7]) (by kernel_rfl) (by simp) ?_;refine AllReadyH.cons (o:=_) rfl (fun K hK=>?_) (AllReadyH.cons (o:=_) rfl (fun K hK=>?_) AllReadyH.nil)
      · obtain ⟨o0,o1,o2,o3,o4,o5⟩:=hOW6.six
        go_simp;refine hK.out _ _ hbW6.drew (fun _=>?_);clear hK K o0 o1 o2 o3 o4 o5;refine Zk 7 (fun K hK=>?_);go_simp;with_reducible refine (HTO.out _ hbW6.drew).mono ?_
        rintro e w' ⟨rfl,rfl⟩
        go_wp2_with fail
        refine hK.out _ _ hbW6.drew (fun _=>?_);clear hK K;refine Zk 8 (fun K hK=>?_);go_simp;refine hK.out _ _ ((hbW6.alloc (by omega) _).drew) (fun _=>?_);clear hK K;obtain ⟨WA,hWA⟩:∃ WA,WA=(W6.alloc (.cells #[.int .i64 y] 3)).drew:=⟨_,rfl⟩;rw [←hWA];have hbA:Below W6.heap.size W6 WA:=by rw [hWA];exact Qae
        have hrA:Rds WA 1 (some ⟨W6.heap.size,0,none⟩) 1 (Qad [y]):=by rw [hWA];exact (Blk.new W6 3 (Qcm [y])).rds rfl
        clear hWA;have hoA:=hoBW6.below hbA;have hoB:=hoAW6.below hbA;have hOA:=hOW6.below hbA hOW6.lt;have hb4A:Below w4.heap.size w4 WA:=hbW6.trans (hbA.mono (by omega));have hszA:w4.heap.size+1≤WA.heap.size:=Nat.le_trans hzW6 hbA.size;refine Zk 9 (fun K hK=>?_);with_reducible refine Qal (some 54) rfl rfl (.tmp 49) (.tmp 53) 93 rfl 3 _ 1 8 Qaw underlying93 rfl (by omega) rfl rfl hoA hrA (Qah _) (by omega) (by omega) (by omega) ?_
        intro T2 cT2 w' hown' hg hat;have hO':=hOA.grown hg (hoA.ne (by omega));have hoB':=hoB.far hg hDJ.symm.far;have hDJ2:=hDJ.symm.next hoB hat;have hb4':Below w4.heap.size w4 w':=Bel.grownOwn hb4A hg (hoA.mono (by omega)) (by omega);have hz':=hg.size;clear hOA hoA hoB hrA hg hat hbA hb4A;refine hK.out _ _ hb4' (fun _=>?_);clear hK K;simp only [Act.put,List.setIfInBounds_toArray,List.set_cons_zero,List.set_cons_succ];refine tz 10 55 ?_;refine tz 11 56 ?_;obtain ⟨o0,o1,o2,o3,o4,o5⟩:=hO'.six;have of:=hO'.frozen 2;refine Zk 12 (fun K hK=>?_);go_simp;refine hK.out _ _ (hb4'.setCell (by simp) _) (fun _=>?_);clear hK K;refine Zd ?_;obtain ⟨W7,hwW7⟩:∃ W7,W7=w'.setCell ⟨w4.heap.size,2,none⟩ (.slice T2 (j+1) cT2):=⟨_,rfl⟩;rw [←hwW7];have hOW7:Blk W7 w4.heap.size 157 #[.slice Q3 L cq3,.slice F2 (j+1) cF2,.slice T2 (j+1) cT2,.slice G4 L L,.slice none 0 0,.int .i64 0]:=by rw [hwW7];exact hO'.set_ 2 _
        have hoAW7:Own W7 (w4.heap.size+1) 3 1 T2 (j+1) cT2 (Qad ((N.ar.map (·.2.1)).take (j+1))):=by rw [hwW7,HNT.out];exact hown'.far (Qaa _ _ _ _) (.inr (hown'.ne (by omega)))
        have hoBW7:=hoB'.far (Qaa w' w4.heap.size 2 (.slice T2 (j+1) cT2)) (.inr (hoB'.ne (by omega)));rw [←hwW7] at hoBW7;have hbW7:Below w4.heap.size w4 W7:=by rw [hwW7];exact hb4'.setCell (by simp) _
        have hzW7:w4.heap.size+1≤W7.heap.size:=by rw [hwW7];simp [World.setCell];omega
        clear hwW7 hO' hoB' hown' hb4' o0 o1 o2 o3 o4 o5 of hOW6 hoBW6 hoAW6 hbW6
        go_wp2_with fail
        go_roundw
        case rel=>exact ⟨hzW7,hbW7,j+1,F2,cF2,T2,cT2,by omega,by go_num,hOW7,hoBW7,hoAW7,hDJ2.symm⟩
        case measure=>simp [intOf];omega
      · go_simp
        with_reducible refine (HTO.out _ hbW6.drew).mono ?_
        rintro e w' ⟨rfl,rfl⟩
        go_wp2_with fail
        refine hK.out _ _ hbW6.drew (fun _=>?_);clear hK K;refine wpAnyH_ready (rs:=[4,8]) (by kernel_rfl) (by simp) ?_;refine AllReadyH.cons (o:=_) rfl (fun K hK=>?_) (AllReadyH.cons (o:=_) rfl (fun K hK=>?_) AllReadyH.nil)
        · obtain ⟨o0,o1,o2,o3,o4,o5⟩:=hOW6.six
          go_simp;refine hK.out _ _ hbW6.drew (fun _=>?_);clear hK K o0 o1 o2 o3 o4 o5;refine Zk 8 (fun K hK=>?_);go_simp;refine hK.out _ _ ((hbW6.alloc (by omega) _).drew) (fun _=>?_);clear hK K;obtain ⟨WA,hWA⟩:∃ WA,WA=(W6.alloc (.cells #[.int .i64 y] 3)).drew:=⟨_,rfl⟩;rw [←hWA];have hbA:Below W6.heap.size W6 WA:=by rw [hWA];exact Qae
          have hrA:Rds WA 1 (some ⟨W6.heap.size,0,none⟩) 1 (Qad [y]):=by rw [hWA];exact (Blk.new W6 3 (Qcm [y])).rds rfl
          clear hWA;have hoA:=hoBW6.below hbA;have hoB:=hoAW6.below hbA;have hOA:=hOW6.below hbA hOW6.lt;have hb4A:Below w4.heap.size w4 WA:=hbW6.trans (hbA.mono (by omega));have hszA:w4.heap.size+1≤WA.heap.size:=Nat.le_trans hzW6 hbA.size;refine Zk 9 (fun K hK=>?_);with_reducible refine Qal (some 54) rfl rfl (.tmp 49) (.tmp 53) 93 rfl 3 _ 1 8 Qaw underlying93 rfl (by omega) rfl rfl hoA hrA (Qah _) (by omega) (by omega) (by omega) ?_
          intro T2 cT2 w' hown' hg hat;have hO':=hOA.grown hg (hoA.ne (by omega));have hoB':=hoB.far hg hDJ.symm.far;have hDJ2:=hDJ.symm.next hoB hat;have hb4':Below w4.heap.size w4 w':=Bel.grownOwn hb4A hg (hoA.mono (by omega)) (by omega);have hz':=hg.size;clear hOA hoA hoB hrA hg hat hbA hb4A;refine hK.out _ _ hb4' (fun _=>?_);clear hK K;simp only [Act.put,List.setIfInBounds_toArray,List.set_cons_zero,List.set_cons_succ];refine tz 10 55 ?_;refine tz 11 56 ?_;obtain ⟨o0,o1,o2,o3,o4,o5⟩:=hO'.six;have of:=hO'.frozen 2;refine Zk 12 (fun K hK=>?_);go_simp;refine hK.out _ _ (hb4'.setCell (by simp) _) (fun _=>?_);clear hK K;refine Zd ?_;obtain ⟨W7,hwW7⟩:∃ W7,W7=w'.setCell ⟨w4.heap.size,2,none⟩ (.slice T2 (j+1) cT2):=⟨_,rfl⟩;rw [←hwW7];have hOW7:Blk W7 w4.heap.size 157 #[.slice Q3 L cq3,.slice F2 (j+1) cF2,.slice T2 (j+1) cT2,.slice G4 L L,.slice none 0 0,.int .i64 0]:=by rw [hwW7];exact hO'.set_ 2 _
          have hoAW7:Own W7 (w4.heap.size+1) 3 1 T2 (j+1) cT2 (Qad ((N.ar.map (·.2.1)).take (j+1))):=by rw [hwW7,HNT.out];exact hown'.far (Qaa _ _ _ _) (.inr (hown'.ne (by omega)))
          have hoBW7:=hoB'.far (Qaa w' w4.heap.size 2 (.slice T2 (j+1) cT2)) (.inr (hoB'.ne (by omega)));rw [←hwW7] at hoBW7;have hbW7:Below w4.heap.size w4 W7:=by rw [hwW7];exact hb4'.setCell (by simp) _
          have hzW7:w4.heap.size+1≤W7.heap.size:=by rw [hwW7];simp [World.setCell];omega
          clear hwW7 hO' hoB' hown' hb4' o0 o1 o2 o3 o4 o5 of hOW6 hoBW6 hoAW6 hbW6
          go_wp2_with fail
          go_roundw
          case rel=>exact ⟨hzW7,hbW7,j+1,F2,cF2,T2,cT2,by omega,by go_num,hOW7,hoBW7,hoAW7,hDJ2.symm⟩
          case measure=>simp [intOf];omega
        · go_simp
          refine hK.out _ _ ((hbW6.alloc (by omega) _).drew) (fun _=>?_);clear hK K;have o1:=fun ob=>(hOW6.alloc ob).six.2.1
          have o2:=fun ob=>(hOW6.alloc ob).six.2.2.1
          refine Zk 4 (fun K hK=>?_);go_simp;refine hK.out _ _ ((hbW6.alloc (by omega) _).drew) (fun _=>?_);clear hK K o1 o2;obtain ⟨WA,hWA⟩:∃ WA,WA=(W6.alloc (.cells #[.int .i64 y] 3)).drew:=⟨_,rfl⟩;rw [←hWA];have hbA:Below W6.heap.size W6 WA:=by rw [hWA];exact Qae
          have hrA:Rds WA 1 (some ⟨W6.heap.size,0,none⟩) 1 (Qad [y]):=by rw [hWA];exact (Blk.new W6 3 (Qcm [y])).rds rfl
          clear hWA;have hoA:=hoBW6.below hbA;have hoB:=hoAW6.below hbA;have hOA:=hOW6.below hbA hOW6.lt;have hb4A:Below w4.heap.size w4 WA:=hbW6.trans (hbA.mono (by omega));have hszA:w4.heap.size+1≤WA.heap.size:=Nat.le_trans hzW6 hbA.size;refine Zk 9 (fun K hK=>?_);with_reducible refine Qal (some 54) rfl rfl (.tmp 49) (.tmp 53) 93 rfl 3 _ 1 8 Qaw underlying93 rfl (by omega) rfl rfl hoA hrA (Qah _) (by omega) (by omega) (by omega) ?_
          intro T2 cT2 w' hown' hg hat;have hO':=hOA.grown hg (hoA.ne (by omega));have hoB':=hoB.far hg hDJ.symm.far;have hDJ2:=hDJ.symm.next hoB hat;have hb4':Below w4.heap.size w4 w':=Bel.grownOwn hb4A hg (hoA.mono (by omega)) (by omega);have hz':=hg.size;clear hOA hoA hoB hrA hg hat hbA hb4A;refine hK.out _ _ hb4' (fun _=>?_);clear hK K;simp only [Act.put,List.setIfInBounds_toArray,List.set_cons_zero,List.set_cons_succ];refine tz 10 55 ?_;refine tz 11 56 ?_;obtain ⟨o0,o1,o2,o3,o4,o5⟩:=hO'.six;have of:=hO'.frozen 2;refine Zk 12 (fun K hK=>?_);go_simp;refine hK.out _ _ (hb4'.setCell (by simp) _) (fun _=>?_);clear hK K;refine Zd ?_;obtain ⟨W7,hwW7⟩:∃ W7,W7=w'.setCell ⟨w4.heap.size,2,none⟩ (.slice T2 (j+1) cT2):=⟨_,rfl⟩;rw [←hwW7];have hOW7:Blk W7 w4.heap.size 157 #[.slice Q3 L cq3,.slice F2 (j+1) cF2,.slice T2 (j+1) cT2,.slice G4 L L,.slice none 0 0,.int .i64 0]:=by rw [hwW7];exact hO'.set_ 2 _
          have hoAW7:Own W7 (w4.heap.size+1) 3 1 T2 (j+1) cT2 (Qad ((N.ar.map (·.2.1)).take (j+1))):=by rw [hwW7,HNT.out];exact hown'.far (Qaa _ _ _ _) (.inr (hown'.ne (by omega)))
          have hoBW7:=hoB'.far (Qaa w' w4.heap.size 2 (.slice T2 (j+1) cT2)) (.inr (hoB'.ne (by omega)));rw [←hwW7] at hoBW7;have hbW7:Below w4.heap.size w4 W7:=by rw [hwW7];exact hb4'.setCell (by simp) _
          have hzW7:w4.heap.size+1≤W7.heap.size:=by rw [hwW7];simp [World.setCell];omega
          clear hwW7 hO' hoB' hown' hb4' o0 o1 o2 o3 o4 o5 of hOW6 hoBW6 hoAW6 hbW6
          go_wp2_with fail
          go_roundw
          case rel=>exact ⟨hzW7,hbW7,j+1,F2,cF2,T2,cT2,by omega,by go_num,hOW7,hoBW7,hoAW7,hDJ2.symm⟩
          case measure=>simp [intOf];omega
    · go_simp
      with_reducible refine (HFR.out _ hbwr.drew).mono ?_
      rintro e w' ⟨rfl,rfl⟩
      go_wp2_with fail
      refine hK.out _ _ hbwr.drew (fun _=>?_);clear hK K;refine wpAnyH_ready (rs:=[4,8]) (by kernel_rfl) (by simp) ?_;refine AllReadyH.cons (o:=_) rfl (fun K hK=>?_) (AllReadyH.cons (o:=_) rfl (fun K hK=>?_) AllReadyH.nil)
      · obtain ⟨o0,o1,o2,o3,o4,o5⟩:=hOwr.six
        go_simp;refine hK.out _ _ hbwr.drew (fun _=>?_);clear hK K o0 o1 o2 o3 o4 o5;refine Zk 8 (fun K hK=>?_);go_simp;refine hK.out _ _ ((hbwr.alloc (by omega) _).drew) (fun _=>?_);clear hK K;obtain ⟨WA,hWA⟩:∃ WA,WA=(wr.alloc (.cells #[.int .i64 x] 3)).drew:=⟨_,rfl⟩;rw [←hWA];have hbA:Below wr.heap.size wr WA:=by rw [hWA];exact Qae
        have hrA:Rds WA 1 (some ⟨wr.heap.size,0,none⟩) 1 (Qad [x]):=by rw [hWA];exact (Blk.new wr 3 (Qcm [x])).rds rfl
        clear hWA;have hoA:=hoF.below hbA;have hoB:=hoT.below hbA;have hOA:=hOwr.below hbA hOwr.lt;have hb4A:Below w4.heap.size w4 WA:=hbwr.trans (hbA.mono (by omega));have hszA:w4.heap.size+1≤WA.heap.size:=Nat.le_trans hzwr hbA.size;refine Zk 9 (fun K hK=>?_);with_reducible refine Qal (some 42) rfl rfl (.tmp 37) (.tmp 41) 93 rfl 3 _ 1 8 Qaw underlying93 rfl (by omega) rfl rfl hoA hrA (Qah _) (by omega) (by omega) (by omega) ?_
        intro F2 cF2 w' hown' hg hat;have hO':=hOA.grown hg (hoA.ne (by omega));have hoB':=hoB.far hg hdj.far;have hDJ:=hdj.next hoB hat;have hb4':Below w4.heap.size w4 w':=Bel.grownOwn hb4A hg (hoA.mono (by omega)) (by omega);have hz':=hg.size;clear hOA hoA hoB hrA hg hat hbA hb4A;refine hK.out _ _ hb4' (fun _=>?_);clear hK K;simp only [Act.put,List.setIfInBounds_toArray,List.set_cons_zero,List.set_cons_succ];refine tz 10 43 ?_;refine tz 11 44 ?_;obtain ⟨o0,o1,o2,o3,o4,o5⟩:=hO'.six;have of:=hO'.frozen 1;refine Zk 12 (fun K hK=>?_);go_simp;refine hK.out _ _ (hb4'.setCell (by simp) _) (fun _=>?_);clear hK K;refine Zd ?_;obtain ⟨W6,hwW6⟩:∃ W6,W6=w'.setCell ⟨w4.heap.size,1,none⟩ (.slice F2 (j+1) cF2):=⟨_,rfl⟩;rw [←hwW6];have hOW6:Blk W6 w4.heap.size 157 #[.slice Q3 L cq3,.slice F2 (j+1) cF2,.slice T j cT,.slice G4 L L,.slice none 0 0,.int .i64 0]:=by rw [hwW6];exact hO'.set_ 1 _
        have hoAW6:Own W6 (w4.heap.size+1) 3 1 F2 (j+1) cF2 (Qad ((N.ar.map (·.1)).take (j+1))):=by rw [hwW6,HNF.out];exact hown'.far (Qaa _ _ _ _) (.inr (hown'.ne (by omega)))
        have hoBW6:=hoB'.far (Qaa w' w4.heap.size 1 (.slice F2 (j+1) cF2)) (.inr (hoB'.ne (by omega)));rw [←hwW6] at hoBW6;have hbW6:Below w4.heap.size w4 W6:=by rw [hwW6];exact hb4'.setCell (by simp) _
        have hzW6:w4.heap.size+1≤W6.heap.size:=by rw [hwW6];simp [World.setCell];omega
        clear hwW6 hO' hoB' hown' hb4' o0 o1 o2 o3 o4 o5 of hOwr hoF hoT hbwr
        go_wp2_with fail
        refine wp_region_held_drew (S:=fun V=>Below w4.heap.size w4 V) (by kernel_rfl) hbW6.drew (fun _=>?_);refine tz 0 45 ?_;refine tz 1 46 ?_;refine tz 2 47 ?_;refine tz 3 48 ?_;refine tz 5 50 ?_;refine tz 6 51 ?_;refine wpAnyH_ready (rs:=[4,7]) (by kernel_rfl) (by simp) ?_;refine AllReadyH.cons (o:=_) rfl (fun K hK=>?_) (AllReadyH.cons (o:=_) rfl (fun K hK=>?_) AllReadyH.nil)
        · obtain ⟨o0,o1,o2,o3,o4,o5⟩:=hOW6.six
          go_simp;refine hK.out _ _ hbW6.drew (fun _=>?_);clear hK K o0 o1 o2 o3 o4 o5;refine Zk 7 (fun K hK=>?_);go_simp;with_reducible refine (HTO.out _ hbW6.drew).mono ?_
          rintro e w' ⟨rfl,rfl⟩
          go_wp2_with fail
          refine hK.out _ _ hbW6.drew (fun _=>?_);clear hK K;refine Zk 8 (fun K hK=>?_);go_simp;refine hK.out _ _ ((hbW6.alloc (by omega) _).drew) (fun _=>?_);clear hK K;obtain ⟨WA,hWA⟩:∃ WA,WA=(W6.alloc (.cells #[.int .i64 y] 3)).drew:=⟨_,rfl⟩;rw [←hWA];have hbA:Below W6.heap.size W6 WA:=by rw [hWA];exact Qae
          have hrA:Rds WA 1 (some ⟨W6.heap.size,0,none⟩) 1 (Qad [y]):=by rw [hWA];exact (Blk.new W6 3 (Qcm [y])).rds rfl
          clear hWA;have hoA:=hoBW6.below hbA;have hoB:=hoAW6.below hbA;have hOA:=hOW6.below hbA hOW6.lt;have hb4A:Below w4.heap.size w4 WA:=hbW6.trans (hbA.mono (by omega));have hszA:w4.heap.size+1≤WA.heap.size:=Nat.le_trans hzW6 hbA.size;refine Zk 9 (fun K hK=>?_);with_reducible refine Qal (some 54) rfl rfl (.tmp 49) (.tmp 53) 93 rfl 3 _ 1 8 Qaw underlying93 rfl (by omega) rfl rfl hoA hrA (Qah _) (by omega) (by omega) (by omega) ?_
          intro T2 cT2 w' hown' hg hat;have hO':=hOA.grown hg (hoA.ne (by omega));have hoB':=hoB.far hg hDJ.symm.far;have hDJ2:=hDJ.symm.next hoB hat;have hb4':Below w4.heap.size w4 w':=Bel.grownOwn hb4A hg (hoA.mono (by omega)) (by omega);have hz':=hg.size;clear hOA hoA hoB hrA hg hat hbA hb4A;refine hK.out _ _ hb4' (fun _=>?_);clear hK K;simp only [Act.put,List.setIfInBounds_toArray,List.set_cons_zero,List.set_cons_succ];refine tz 10 55 ?_;refine tz 11 56 ?_;obtain ⟨o0,o1,o2,o3,o4,o5⟩:=hO'.six;have of:=hO'.frozen 2;refine Zk 12 (fun K hK=>?_);go_simp;refine hK.out _ _ (hb4'.setCell (by simp) _) (fun _=>?_);clear hK K;refine Zd ?_;obtain ⟨W7,hwW7⟩:∃ W7,W7=w'.setCell ⟨w4.heap.size,2,none⟩ (.slice T2 (j+1) cT2):=⟨_,rfl⟩;rw [←hwW7];have hOW7:Blk W7 w4.heap.size 157 #[.slice Q3 L cq3,.slice F2 (j+1) cF2,.slice T2 (j+1) cT2,.slice G4 L L,.slice none 0 0,.int .i64 0]:=by rw [hwW7];exact hO'.set_ 2 _
          have hoAW7:Own W7 (w4.heap.size+1) 3 1 T2 (j+1) cT2 (Qad ((N.ar.map (·.2.1)).take (j+1))):=by rw [hwW7,HNT.out];exact hown'.far (Qaa _ _ _ _) (.inr (hown'.ne (by omega)))
          have hoBW7:=hoB'.far (Qaa w' w4.heap.size 2 (.slice T2 (j+1) cT2)) (.inr (hoB'.ne (by omega)));rw [←hwW7] at hoBW7;have hbW7:Below w4.heap.size w4 W7:=by rw [hwW7];exact hb4'.setCell (by simp) _
          have hzW7:w4.heap.size+1≤W7.heap.size:=by rw [hwW7];simp [World.setCell];omega
          clear hwW7 hO' hoB' hown' hb4' o0 o1 o2 o3 o4 o5 of hOW6 hoBW6 hoAW6 hbW6
          go_wp2_with fail
          go_roundw
          case rel=>exact ⟨hzW7,hbW7,j+1,F2,cF2,T2,cT2,by omega,by go_num,hOW7,hoBW7,hoAW7,hDJ2.symm⟩
          case measure=>simp [intOf];omega
        · go_simp
          with_reducible refine (HTO.out _ hbW6.drew).mono ?_
          rintro e w' ⟨rfl,rfl⟩
          go_wp2_with fail
          refine hK.out _ _ hbW6.drew (fun _=>?_);clear hK K;refine wpAnyH_ready (rs:=[4,8]) (by kernel_rfl) (by simp) ?_;refine AllReadyH.cons (o:=_) rfl (fun K hK=>?_) (AllReadyH.cons (o:=_) rfl (fun K hK=>?_) AllReadyH.nil)
          · obtain ⟨o0,o1,o2,o3,o4,o5⟩:=hOW6.six
            go_simp;refine hK.out _ _ hbW6.drew (fun _=>?_);clear hK K o0 o1 o2 o3 o4 o5;refine Zk 8 (fun K hK=>?_);go_simp;refine hK.out _ _ ((hbW6.alloc (by omega) _).drew) (fun _=>?_);clear hK K;obtain ⟨WA,hWA⟩:∃ WA,WA=(W6.alloc (.cells #[.int .i64 y] 3)).drew:=⟨_,rfl⟩;rw [←hWA];have hbA:Below W6.heap.size W6 WA:=by rw [hWA];exact Qae
            have hrA:Rds WA 1 (some ⟨W6.heap.size,0,none⟩) 1 (Qad [y]):=by rw [hWA];exact (Blk.new W6 3 (Qcm [y])).rds rfl
            clear hWA;have hoA:=hoBW6.below hbA;have hoB:=hoAW6.below hbA;have hOA:=hOW6.below hbA hOW6.lt;have hb4A:Below w4.heap.size w4 WA:=hbW6.trans (hbA.mono (by omega));have hszA:w4.heap.size+1≤WA.heap.size:=Nat.le_trans hzW6 hbA.size;refine Zk 9 (fun K hK=>?_);with_reducible refine Qal (some 54) rfl rfl (.tmp 49) (.tmp 53) 93 rfl 3 _ 1 8 Qaw underlying93 rfl (by omega) rfl rfl hoA hrA (Qah _) (by omega) (by omega) (by omega) ?_
            intro T2 cT2 w' hown' hg hat;have hO':=hOA.grown hg (hoA.ne (by omega));have hoB':=hoB.far hg hDJ.symm.far;have hDJ2:=hDJ.symm.next hoB hat;have hb4':Below w4.heap.size w4 w':=Bel.grownOwn hb4A hg (hoA.mono (by omega)) (by omega);have hz':=hg.size;clear hOA hoA hoB hrA hg hat hbA hb4A;refine hK.out _ _ hb4' (fun _=>?_);clear hK K;simp only [Act.put,List.setIfInBounds_toArray,List.set_cons_zero,List.set_cons_succ];refine tz 10 55 ?_;refine tz 11 56 ?_;obtain ⟨o0,o1,o2,o3,o4,o5⟩:=hO'.six;have of:=hO'.frozen 2;refine Zk 12 (fun K hK=>?_);go_simp;refine hK.out _ _ (hb4'.setCell (by simp) _) (fun _=>?_);clear hK K;refine Zd ?_;obtain ⟨W7,hwW7⟩:∃ W7,W7=w'.setCell ⟨w4.heap.size,2,none⟩ (.slice T2 (j+1) cT2):=⟨_,rfl⟩;rw [←hwW7];have hOW7:Blk W7 w4.heap.size 157 #[.slice Q3 L cq3,.slice F2 (j+1) cF2,.slice T2 (j+1) cT2,.slice G4 L L,.slice none 0 0,.int .i64 0]:=by rw [hwW7];exact hO'.set_ 2 _
            have hoAW7:Own W7 (w4.heap.size+1) 3 1 T2 (j+1) cT2 (Qad ((N.ar.map (·.2.1)).take (j+1))):=by rw [hwW7,HNT.out];exact hown'.far (Qaa _ _ _ _) (.inr (hown'.ne (by omega)))
            have hoBW7:=hoB'.far (Qaa w' w4.heap.size 2 (.slice T2 (j+1) cT2)) (.inr (hoB'.ne (by omega)));rw [←hwW7] at hoBW7;have hbW7:Below w4.heap.size w4 W7:=by rw [hwW7];exact hb4'.setCell (by simp) _
            have hzW7:w4.heap.size+1≤W7.heap.size:=by rw [hwW7];simp [World.setCell];omega
            clear hwW7 hO' hoB' hown' hb4' o0 o1 o2 o3 o4 o5 of hOW6 hoBW6 hoAW6 hbW6
            go_wp2_with fail
            go_roundw
            case rel=>exact ⟨hzW7,hbW7,j+1,F2,cF2,T2,cT2,by omega,by go_num,hOW7,hoBW7,hoAW7,hDJ2.symm⟩
            case measure=>simp [intOf];omega
          · go_simp
            refine hK.out _ _ ((hbW6.alloc (by omega) _).drew) (fun _=>?_);clear hK K;have o1:=fun ob=>(hOW6.alloc ob).six.2.1
            have o2:=fun ob=>(hOW6.alloc ob).six.2.2.1
            refine Zk 4 (fun K hK=>?_);go_simp;refine hK.out _ _ ((hbW6.alloc (by omega) _).drew) (fun _=>?_);clear hK K o1 o2;obtain ⟨WA,hWA⟩:∃ WA,WA=(W6.alloc (.cells #[.int .i64 y] 3)).drew:=⟨_,rfl⟩;rw [←hWA];have hbA:Below W6.heap.size W6 WA:=by rw [hWA];exact Qae
            have hrA:Rds WA 1 (some ⟨W6.heap.size,0,none⟩) 1 (Qad [y]):=by rw [hWA];exact (Blk.new W6 3 (Qcm [y])).rds rfl
            clear hWA;have hoA:=hoBW6.below hbA;have hoB:=hoAW6.below hbA;have hOA:=hOW6.below hbA hOW6.lt;have hb4A:Below w4.heap.size w4 WA:=hbW6.trans (hbA.mono (by omega));have hszA:w4.heap.size+1≤WA.heap.size:=Nat.le_trans hzW6 hbA.size;refine Zk 9 (fun K hK=>?_);with_reducible refine Qal (some 54) rfl rfl (.tmp 49) (.tmp 53) 93 rfl 3 _ 1 8 Qaw underlying93 rfl (by omega) rfl rfl hoA hrA (Qah _) (by omega) (by omega) (by omega) ?_
            intro T2 cT2 w' hown' hg hat;have hO':=hOA.grown hg (hoA.ne (by omega));have hoB':=hoB.far hg hDJ.symm.far;have hDJ2:=hDJ.symm.next hoB hat;have hb4':Below w4.heap.size w4 w':=Bel.grownOwn hb4A hg (hoA.mono (by omega)) (by omega);have hz':=hg.size;clear hOA hoA hoB hrA hg hat hbA hb4A;refine hK.out _ _ hb4' (fun _=>?_);clear hK K;simp only [Act.put,List.setIfInBounds_toArray,List.set_cons_zero,List.set_cons_succ];refine tz 10 55 ?_;refine tz 11 56 ?_;obtain ⟨o0,o1,o2,o3,o4,o5⟩:=hO'.six;have of:=hO'.frozen 2;refine Zk 12 (fun K hK=>?_);go_simp;refine hK.out _ _ (hb4'.setCell (by simp) _) (fun _=>?_);clear hK K;refine Zd ?_;obtain ⟨W7,hwW7⟩:∃ W7,W7=w'.setCell ⟨w4.heap.size,2,none⟩ (.slice T2 (j+1) cT2):=⟨_,rfl⟩;rw [←hwW7];have hOW7:Blk W7 w4.heap.size 157 #[.slice Q3 L cq3,.slice F2 (j+1) cF2,.slice T2 (j+1) cT2,.slice G4 L L,.slice none 0 0,.int .i64 0]:=by rw [hwW7];exact hO'.set_ 2 _
            have hoAW7:Own W7 (w4.heap.size+1) 3 1 T2 (j+1) cT2 (Qad ((N.ar.map (·.2.1)).take (j+1))):=by rw [hwW7,HNT.out];exact hown'.far (Qaa _ _ _ _) (.inr (hown'.ne (by omega)))
            have hoBW7:=hoB'.far (Qaa w' w4.heap.size 2 (.slice T2 (j+1) cT2)) (.inr (hoB'.ne (by omega)));rw [←hwW7] at hoBW7;have hbW7:Below w4.heap.size w4 W7:=by rw [hwW7];exact hb4'.setCell (by simp) _
            have hzW7:w4.heap.size+1≤W7.heap.size:=by rw [hwW7];simp [World.setCell];omega
            clear hwW7 hO' hoB' hown' hb4' o0 o1 o2 o3 o4 o5 of hOW6 hoBW6 hoAW6 hbW6
            go_wp2_with fail
            go_roundw
            case rel=>exact ⟨hzW7,hbW7,j+1,F2,cF2,T2,cT2,by omega,by go_num,hOW7,hoBW7,hoAW7,hDJ2.symm⟩
            case measure=>simp [intOf];omega
      · go_simp
        refine hK.out _ _ ((hbwr.alloc (by omega) _).drew) (fun _=>?_);clear hK K;have o1:=fun ob=>(hOwr.alloc ob).six.2.1
        have o2:=fun ob=>(hOwr.alloc ob).six.2.2.1
        refine Zk 4 (fun K hK=>?_);go_simp;refine hK.out _ _ ((hbwr.alloc (by omega) _).drew) (fun _=>?_);clear hK K o1 o2;obtain ⟨WA,hWA⟩:∃ WA,WA=(wr.alloc (.cells #[.int .i64 x] 3)).drew:=⟨_,rfl⟩;rw [←hWA];have hbA:Below wr.heap.size wr WA:=by rw [hWA];exact Qae
        have hrA:Rds WA 1 (some ⟨wr.heap.size,0,none⟩) 1 (Qad [x]):=by rw [hWA];exact (Blk.new wr 3 (Qcm [x])).rds rfl
        clear hWA;have hoA:=hoF.below hbA;have hoB:=hoT.below hbA;have hOA:=hOwr.below hbA hOwr.lt;have hb4A:Below w4.heap.size w4 WA:=hbwr.trans (hbA.mono (by omega));have hszA:w4.heap.size+1≤WA.heap.size:=Nat.le_trans hzwr hbA.size;refine Zk 9 (fun K hK=>?_);with_reducible refine Qal (some 42) rfl rfl (.tmp 37) (.tmp 41) 93 rfl 3 _ 1 8 Qaw underlying93 rfl (by omega) rfl rfl hoA hrA (Qah _) (by omega) (by omega) (by omega) ?_
        intro F2 cF2 w' hown' hg hat;have hO':=hOA.grown hg (hoA.ne (by omega));have hoB':=hoB.far hg hdj.far;have hDJ:=hdj.next hoB hat;have hb4':Below w4.heap.size w4 w':=Bel.grownOwn hb4A hg (hoA.mono (by omega)) (by omega);have hz':=hg.size;clear hOA hoA hoB hrA hg hat hbA hb4A;refine hK.out _ _ hb4' (fun _=>?_);clear hK K;simp only [Act.put,List.setIfInBounds_toArray,List.set_cons_zero,List.set_cons_succ];refine tz 10 43 ?_;refine tz 11 44 ?_;obtain ⟨o0,o1,o2,o3,o4,o5⟩:=hO'.six;have of:=hO'.frozen 1;refine Zk 12 (fun K hK=>?_);go_simp;refine hK.out _ _ (hb4'.setCell (by simp) _) (fun _=>?_);clear hK K;refine Zd ?_;obtain ⟨W6,hwW6⟩:∃ W6,W6=w'.setCell ⟨w4.heap.size,1,none⟩ (.slice F2 (j+1) cF2):=⟨_,rfl⟩;rw [←hwW6];have hOW6:Blk W6 w4.heap.size 157 #[.slice Q3 L cq3,.slice F2 (j+1) cF2,.slice T j cT,.slice G4 L L,.slice none 0 0,.int .i64 0]:=by rw [hwW6];exact hO'.set_ 1 _
        have hoAW6:Own W6 (w4.heap.size+1) 3 1 F2 (j+1) cF2 (Qad ((N.ar.map (·.1)).take (j+1))):=by rw [hwW6,HNF.out];exact hown'.far (Qaa _ _ _ _) (.inr (hown'.ne (by omega)))
        have hoBW6:=hoB'.far (Qaa w' w4.heap.size 1 (.slice F2 (j+1) cF2)) (.inr (hoB'.ne (by omega)));rw [←hwW6] at hoBW6;have hbW6:Below w4.heap.size w4 W6:=by rw [hwW6];exact hb4'.setCell (by simp) _
        have hzW6:w4.heap.size+1≤W6.heap.size:=by rw [hwW6];simp [World.setCell];omega
        clear hwW6 hO' hoB' hown' hb4' o0 o1 o2 o3 o4 o5 of hOwr hoF hoT hbwr
        go_wp2_with fail
        refine wp_region_held_drew (S:=fun V=>Below w4.heap.size w4 V) (by kernel_rfl) hbW6.drew (fun _=>?_);refine tz 0 45 ?_;refine tz 1 46 ?_;refine tz 2 47 ?_;refine tz 3 48 ?_;refine tz 5 50 ?_;refine tz 6 51 ?_;refine wpAnyH_ready (rs:=[4,7]) (by kernel_rfl) (by simp) ?_;refine AllReadyH.cons (o:=_) rfl (fun K hK=>?_) (AllReadyH.cons (o:=_) rfl (fun K hK=>?_) AllReadyH.nil)
        · obtain ⟨o0,o1,o2,o3,o4,o5⟩:=hOW6.six
          go_simp;refine hK.out _ _ hbW6.drew (fun _=>?_);clear hK K o0 o1 o2 o3 o4 o5;refine Zk 7 (fun K hK=>?_);go_simp;with_reducible refine (HTO.out _ hbW6.drew).mono ?_
          rintro e w' ⟨rfl,rfl⟩
          go_wp2_with fail
          refine hK.out _ _ hbW6.drew (fun _=>?_);clear hK K;refine Zk 8 (fun K hK=>?_);go_simp;refine hK.out _ _ ((hbW6.alloc (by omega) _).drew) (fun _=>?_);clear hK K;obtain ⟨WA,hWA⟩:∃ WA,WA=(W6.alloc (.cells #[.int .i64 y] 3)).drew:=⟨_,rfl⟩;rw [←hWA];have hbA:Below W6.heap.size W6 WA:=by rw [hWA];exact Qae
          have hrA:Rds WA 1 (some ⟨W6.heap.size,0,none⟩) 1 (Qad [y]):=by rw [hWA];exact (Blk.new W6 3 (Qcm [y])).rds rfl
          clear hWA;have hoA:=hoBW6.below hbA;have hoB:=hoAW6.below hbA;have hOA:=hOW6.below hbA hOW6.lt;have hb4A:Below w4.heap.size w4 WA:=hbW6.trans (hbA.mono (by omega));have hszA:w4.heap.size+1≤WA.heap.size:=Nat.le_trans hzW6 hbA.size;refine Zk 9 (fun K hK=>?_);with_reducible refine Qal (some 54) rfl rfl (.tmp 49) (.tmp 53) 93 rfl 3 _ 1 8 Qaw underlying93 rfl (by omega) rfl rfl hoA hrA (Qah _) (by omega) (by omega) (by omega) ?_
          intro T2 cT2 w' hown' hg hat;have hO':=hOA.grown hg (hoA.ne (by omega));have hoB':=hoB.far hg hDJ.symm.far;have hDJ2:=hDJ.symm.next hoB hat;have hb4':Below w4.heap.size w4 w':=Bel.grownOwn hb4A hg (hoA.mono (by omega)) (by omega);have hz':=hg.size;clear hOA hoA hoB hrA hg hat hbA hb4A;refine hK.out _ _ hb4' (fun _=>?_);clear hK K;simp only [Act.put,List.setIfInBounds_toArray,List.set_cons_zero,List.set_cons_succ];refine tz 10 55 ?_;refine tz 11 56 ?_;obtain ⟨o0,o1,o2,o3,o4,o5⟩:=hO'.six;have of:=hO'.frozen 2;refine Zk 12 (fun K hK=>?_);go_simp;refine hK.out _ _ (hb4'.setCell (by simp) _) (fun _=>?_);clear hK K;refine Zd ?_;obtain ⟨W7,hwW7⟩:∃ W7,W7=w'.setCell ⟨w4.heap.size,2,none⟩ (.slice T2 (j+1) cT2):=⟨_,rfl⟩;rw [←hwW7];have hOW7:Blk W7 w4.heap.size 157 #[.slice Q3 L cq3,.slice F2 (j+1) cF2,.slice T2 (j+1) cT2,.slice G4 L L,.slice none 0 0,.int .i64 0]:=by rw [hwW7];exact hO'.set_ 2 _
          have hoAW7:Own W7 (w4.heap.size+1) 3 1 T2 (j+1) cT2 (Qad ((N.ar.map (·.2.1)).take (j+1))):=by rw [hwW7,HNT.out];exact hown'.far (Qaa _ _ _ _) (.inr (hown'.ne (by omega)))
          have hoBW7:=hoB'.far (Qaa w' w4.heap.size 2 (.slice T2 (j+1) cT2)) (.inr (hoB'.ne (by omega)));rw [←hwW7] at hoBW7;have hbW7:Below w4.heap.size w4 W7:=by rw [hwW7];exact hb4'.setCell (by simp) _
          have hzW7:w4.heap.size+1≤W7.heap.size:=by rw [hwW7];simp [World.setCell];omega
          clear hwW7 hO' hoB' hown' hb4' o0 o1 o2 o3 o4 o5 of hOW6 hoBW6 hoAW6 hbW6
          go_wp2_with fail
          go_roundw
          case rel=>exact ⟨hzW7,hbW7,j+1,F2,cF2,T2,cT2,by omega,by go_num,hOW7,hoBW7,hoAW7,hDJ2.symm⟩
          case measure=>simp [intOf];omega
        · go_simp
          with_reducible refine (HTO.out _ hbW6.drew).mono ?_
          rintro e w' ⟨rfl,rfl⟩
          go_wp2_with fail
          refine hK.out _ _ hbW6.drew (fun _=>?_);clear hK K;refine wpAnyH_ready (rs:=[4,8]) (by kernel_rfl) (by simp) ?_;refine AllReadyH.cons (o:=_) rfl (fun K hK=>?_) (AllReadyH.cons (o:=_) rfl (fun K hK=>?_) AllReadyH.nil)
          · obtain ⟨o0,o1,o2,o3,o4,o5⟩:=hOW6.six
            go_simp;refine hK.out _ _ hbW6.drew (fun _=>?_);clear hK K o0 o1 o2 o3 o4 o5;refine Zk 8 (fun K hK=>?_);go_simp;refine hK.out _ _ ((hbW6.alloc (by omega) _).drew) (fun _=>?_);clear hK K;obtain ⟨WA,hWA⟩:∃ WA,WA=(W6.alloc (.cells #[.int .i64 y] 3)).drew:=⟨_,rfl⟩;rw [←hWA];have hbA:Below W6.heap.size W6 WA:=by rw [hWA];exact Qae
            have hrA:Rds WA 1 (some ⟨W6.heap.size,0,none⟩) 1 (Qad [y]):=by rw [hWA];exact (Blk.new W6 3 (Qcm [y])).rds rfl
            clear hWA;have hoA:=hoBW6.below hbA;have hoB:=hoAW6.below hbA;have hOA:=hOW6.below hbA hOW6.lt;have hb4A:Below w4.heap.size w4 WA:=hbW6.trans (hbA.mono (by omega));have hszA:w4.heap.size+1≤WA.heap.size:=Nat.le_trans hzW6 hbA.size;refine Zk 9 (fun K hK=>?_);with_reducible refine Qal (some 54) rfl rfl (.tmp 49) (.tmp 53) 93 rfl 3 _ 1 8 Qaw underlying93 rfl (by omega) rfl rfl hoA hrA (Qah _) (by omega) (by omega) (by omega) ?_
            intro T2 cT2 w' hown' hg hat;have hO':=hOA.grown hg (hoA.ne (by omega));have hoB':=hoB.far hg hDJ.symm.far;have hDJ2:=hDJ.symm.next hoB hat;have hb4':Below w4.heap.size w4 w':=Bel.grownOwn hb4A hg (hoA.mono (by omega)) (by omega);have hz':=hg.size;clear hOA hoA hoB hrA hg hat hbA hb4A;refine hK.out _ _ hb4' (fun _=>?_);clear hK K;simp only [Act.put,List.setIfInBounds_toArray,List.set_cons_zero,List.set_cons_succ];refine tz 10 55 ?_;refine tz 11 56 ?_;obtain ⟨o0,o1,o2,o3,o4,o5⟩:=hO'.six;have of:=hO'.frozen 2;refine Zk 12 (fun K hK=>?_);go_simp;refine hK.out _ _ (hb4'.setCell (by simp) _) (fun _=>?_);clear hK K;refine Zd ?_;obtain ⟨W7,hwW7⟩:∃ W7,W7=w'.setCell ⟨w4.heap.size,2,none⟩ (.slice T2 (j+1) cT2):=⟨_,rfl⟩;rw [←hwW7];have hOW7:Blk W7 w4.heap.size 157 #[.slice Q3 L cq3,.slice F2 (j+1) cF2,.slice T2 (j+1) cT2,.slice G4 L L,.slice none 0 0,.int .i64 0]:=by rw [hwW7];exact hO'.set_ 2 _
            have hoAW7:Own W7 (w4.heap.size+1) 3 1 T2 (j+1) cT2 (Qad ((N.ar.map (·.2.1)).take (j+1))):=by rw [hwW7,HNT.out];exact hown'.far (Qaa _ _ _ _) (.inr (hown'.ne (by omega)))
            have hoBW7:=hoB'.far (Qaa w' w4.heap.size 2 (.slice T2 (j+1) cT2)) (.inr (hoB'.ne (by omega)));rw [←hwW7] at hoBW7;have hbW7:Below w4.heap.size w4 W7:=by rw [hwW7];exact hb4'.setCell (by simp) _
            have hzW7:w4.heap.size+1≤W7.heap.size:=by rw [hwW7];simp [World.setCell];omega
            clear hwW7 hO' hoB' hown' hb4' o0 o1 o2 o3 o4 o5 of hOW6 hoBW6 hoAW6 hbW6
            go_wp2_with fail
            go_roundw
            case rel=>exact ⟨hzW7,hbW7,j+1,F2,cF2,T2,cT2,by omega,by go_num,hOW7,hoBW7,hoAW7,hDJ2.symm⟩
            case measure=>simp [intOf];omega
          · go_simp
            refine hK.out _ _ ((hbW6.alloc (by omega) _).drew) (fun _=>?_);clear hK K;have o1:=fun ob=>(hOW6.alloc ob).six.2.1
            have o2:=fun ob=>(hOW6.alloc ob).six.2.2.1
            refine Zk 4 (fun K hK=>?_);go_simp;refine hK.out _ _ ((hbW6.alloc (by omega) _).drew) (fun _=>?_);clear hK K o1 o2;obtain ⟨WA,hWA⟩:∃ WA,WA=(W6.alloc (.cells #[.int .i64 y] 3)).drew:=⟨_,rfl⟩;rw [←hWA];have hbA:Below W6.heap.size W6 WA:=by rw [hWA];exact Qae
            have hrA:Rds WA 1 (some ⟨W6.heap.size,0,none⟩) 1 (Qad [y]):=by rw [hWA];exact (Blk.new W6 3 (Qcm [y])).rds rfl
            clear hWA;have hoA:=hoBW6.below hbA;have hoB:=hoAW6.below hbA;have hOA:=hOW6.below hbA hOW6.lt;have hb4A:Below w4.heap.size w4 WA:=hbW6.trans (hbA.mono (by omega));have hszA:w4.heap.size+1≤WA.heap.size:=Nat.le_trans hzW6 hbA.size;refine Zk 9 (fun K hK=>?_);with_reducible refine Qal (some 54) rfl rfl (.tmp 49) (.tmp 53) 93 rfl 3 _ 1 8 Qaw underlying93 rfl (by omega) rfl rfl hoA hrA (Qah _) (by omega) (by omega) (by omega) ?_
            intro T2 cT2 w' hown' hg hat;have hO':=hOA.grown hg (hoA.ne (by omega));have hoB':=hoB.far hg hDJ.symm.far;have hDJ2:=hDJ.symm.next hoB hat;have hb4':Below w4.heap.size w4 w':=Bel.grownOwn hb4A hg (hoA.mono (by omega)) (by omega);have hz':=hg.size;clear hOA hoA hoB hrA hg hat hbA hb4A;refine hK.out _ _ hb4' (fun _=>?_);clear hK K;simp only [Act.put,List.setIfInBounds_toArray,List.set_cons_zero,List.set_cons_succ];refine tz 10 55 ?_;refine tz 11 56 ?_;obtain ⟨o0,o1,o2,o3,o4,o5⟩:=hO'.six;have of:=hO'.frozen 2;refine Zk 12 (fun K hK=>?_);go_simp;refine hK.out _ _ (hb4'.setCell (by simp) _) (fun _=>?_);clear hK K;refine Zd ?_;obtain ⟨W7,hwW7⟩:∃ W7,W7=w'.setCell ⟨w4.heap.size,2,none⟩ (.slice T2 (j+1) cT2):=⟨_,rfl⟩;rw [←hwW7];have hOW7:Blk W7 w4.heap.size 157 #[.slice Q3 L cq3,.slice F2 (j+1) cF2,.slice T2 (j+1) cT2,.slice G4 L L,.slice none 0 0,.int .i64 0]:=by rw [hwW7];exact hO'.set_ 2 _
            have hoAW7:Own W7 (w4.heap.size+1) 3 1 T2 (j+1) cT2 (Qad ((N.ar.map (·.2.1)).take (j+1))):=by rw [hwW7,HNT.out];exact hown'.far (Qaa _ _ _ _) (.inr (hown'.ne (by omega)))
            have hoBW7:=hoB'.far (Qaa w' w4.heap.size 2 (.slice T2 (j+1) cT2)) (.inr (hoB'.ne (by omega)));rw [←hwW7] at hoBW7;have hbW7:Below w4.heap.size w4 W7:=by rw [hwW7];exact hb4'.setCell (by simp) _
            have hzW7:w4.heap.size+1≤W7.heap.size:=by rw [hwW7];simp [World.setCell];omega
            clear hwW7 hO' hoB' hown' hb4' o0 o1 o2 o3 o4 o5 of hOW6 hoBW6 hoAW6 hbW6
            go_wp2_with fail
            go_roundw
            case rel=>exact ⟨hzW7,hbW7,j+1,F2,cF2,T2,cT2,by omega,by go_num,hOW7,hoBW7,hoAW7,hDJ2.symm⟩
            case measure=>simp [intOf];omega
  · obtain rfl:M=j:=by omega
    rw [List.take_of_length_le (by rw [List.length_map,HML.out];exact Zn _)] at hoF hoT;have HOF:=Zh hoF;have HOT:=Zh hoT;obtain ⟨o0,o1,o2,o3,o4,o5⟩:=hOwr.six;obtain ⟨wo,hwo⟩:∃ wo,wo=wr:=⟨_,rfl⟩;subst hwo;have hsA0:Qbf ((gatesOf N.ar ls).take 0)=0:=by simp [Qbf]
    have HS0:=Zh (show Blk wo w4.heap.size 157 #[.slice Q3 L cq3,.slice F M cF,.slice T M cT,.slice G4 L L,.slice none 0 0,.int .i64 ((Qbf ((gatesOf N.ar ls).take 0):Nat):Int)] by rw [hsA0];exact hOwr)
    clear hoF hoT hdj hsA0
    go_wp2_with fail
    clear o0 o1 o2 o3 o4 o5
    go_loopw [63] (fun q W=>wo.heap.size≤W.heap.size∧Below w4.heap.size w4 W∧Qaz (fun b=>b≠w4.heap.size∧b<wo.heap.size) wo W∧∃ (i:Nat) (S:Option Addr) (cS:Nat) (xs:List Value),i≤L∧q=.int .i64 i∧Blk W w4.heap.size 157 #[.slice Q3 L cq3,.slice F M cF,.slice T M cT,.slice G4 L L,.slice S i cS,.int .i64 ((Qbf ((gatesOf N.ar ls).take i):Nat):Int)]∧RwL W wo.heap.size S i cS xs ((Qth (gatesOf N.ar ls)).take i)) (fun q _=>L-(intOf q).toNat)
    case atStart=>exact ⟨Zn _,hbwr,Qaz.refl _ _,0,none,0,[],Nat.zero_le _,rfl,HS0.out,by simpa using RwL.nil _ _⟩
    case round =>
     clear hbwr hOwr HS0;obtain ⟨hzr,hbr,hkr,i,S,cS,xs,hi,rfl,hO,hRw⟩:=hrel
     by_cases hlt2:i<L
     · obtain ⟨row,gb,go_,Ag,ng,cg,hrow,rfl,hcg,hrc,hng,hcg2⟩:=(HG4.out.le (Qbn _ _)).at_ hlt2
       obtain ⟨l,hl,hrowl⟩:∃ l,ls[i]?=some l∧row=gateRow N.ar l:=by
        unfold gatesOf at hrow;rw [List.getElem?_map] at hrow
        cases e:ls[i]? with
        | none=>rw [e] at hrow;cases hrow
        | some l=>rw [e] at hrow;cases hrow;exact ⟨l,rfl,rfl⟩
       have hlo:=HP.out.lvl l (Zm hl)
       have hnn:ng≤4096:=by
        rw [←hrc.1,hrowl,Qan];have:=Qbp (l:=l) (n:=(n:Int)) (fun x hx=>hlo.hi x hx) (by omega);omega
       have hcg':=Zc hbr (Zn _) hcg;have HSB:=Zh (show ∀ k,Qda (row.take k)≤4096*268435456 from fun k=>by rw [hrowl];exact Qvg (by rw [HML.out];exact HM.out) hlo hn4)
       have HCB:=Zh (show ∀ (c:Nat) (x:Qam),row[c]?=some x→x.1.length≤16384∧x.2.length≤16384 from fun c x hx=>by
        have h0:=HM.out;rw [hrowl] at hx;have:=Qbg hx;rw [HML.out] at this;omega)
       have hsA:=sumA_le (ar:=N.ar) (ls:=ls) (i:=i) (by rw [HML.out];exact HM.out) HP.out hn4;have HSN:=Zh (Qbr hrow);have HSG:=Zh (Qow hrow);have HRC:=Zh hrc;have HRL:=Zh hrc.1;generalize hss:Qbf ((gatesOf N.ar ls).take i)=sA at *;clear hss;have hmk:=Qea ng (by omega);have i1:(0:Int)≤(i:Int):=by omega
       have i2:(i:Int)<(L:Int):=by omega
       obtain ⟨wi,hwi⟩:∃ wi,wi=wr:=⟨_,rfl⟩;subst hwi;clear hrow hcg hrc hng hlo hl hrowl
       go_wp2_with fail
       (refine Qag ?_;intro w7 hw7)
       have hb7:Below wi.heap.size wi w7:=by rw [hw7];exact Qae
       have hB7:Blk w7 wi.heap.size 3 (Qcm ((Qib sA row).take 0 ++List.replicate (ng-0) 0)):=by rw [hw7,List.take_zero,List.nil_append,Nat.sub_zero,←Qdv];exact Blk.new _ _ _
       have hz7:wi.heap.size+1=w7.heap.size:=by rw [hw7];simp
       clear hw7 hmk;have hO7:=hO.below hb7 hO.lt;have hz4i:=hO.lt
       go_loopw [72] (fun q W=>wi.heap.size+1≤W.heap.size∧Below w4.heap.size w4 W∧Qaz (fun b=>b≠w4.heap.size∧b<wi.heap.size) wi W∧∃ k:Nat,k≤ng∧q=.int .i64 k∧Blk W w4.heap.size 157 #[.slice Q3 L cq3,.slice F M cF,.slice T M cT,.slice (some ⟨gb,go_,none⟩) L L,.slice S i cS,.int .i64 ((sA+Qda (row.take k):Nat):Int)]∧Blk W wi.heap.size 3 (Qcm ((Qib sA row).take k ++List.replicate (ng-k) 0))) (fun q _=>ng-(intOf q).toNat)
       case atStart=>exact ⟨by omega,hbr.trans (hb7.mono (by omega)),Qaz.below hb7,0,Nat.zero_le _,rfl,by simpa [Qda] using hO7,hB7⟩
       case round =>
        clear hB7 hO7 hz7 hb7;obtain ⟨hzk,hbk,hkk,k,hk,rfl,hOk,hBk⟩:=hrel
        by_cases hlt3:k<ng
        · obtain ⟨x,gb',go',A1,n1,c1,A2,n2,c2,hx,eg,cc1,hr1,cc2,hr2,_⟩:=HRC.out.at_ hlt3
          subst eg;have hb1:=HCB.out k x hx;have hn1:n1≤16384:=by rw [←hr1.1];exact hb1.1
          have hn2:n2≤16384:=by rw [←hr2.1];exact hb1.2
          have HSZ:=Zh (show Qda (row.take (k+1))=Qda (row.take k)+n1*n2 by
           rw [Qbl hx];unfold szG;rw [hr1.1,hr2.1])
          have hP:n1*n2≤268435456:=Nat.le_trans (Nat.mul_le_mul hn1 hn2) (by omega);have hsk:=HSB.out k;have cc1':=Zc hbk (Zn _) cc1;have cc2':=Zc hbk (Zn _) cc2;have HSTN:=Zh (Qtk (s:=sA) (row:=row) (j:=k) (by rw [HRL.out];exact hlt3));rw [HRL.out] at HSTN;obtain ⟨v0,hv0⟩:∃ v,((Qib sA row).take k ++List.replicate (ng-k) (0:Int))[k]?=some v:=⟨_,Zg (by rw [List.length_append,List.length_take,Qet,HRL.out,List.length_replicate];omega)⟩;have cb:=hBk.cellI hv0;have cbf:=hBk.frozen k;have e1:(n1:Int)*(n2:Int)=((n1*n2:Nat):Int):=by simp
          generalize hPP:n1*n2=P at *;generalize hKK:Qda (row.take k)=K at *;clear hPP hKK;have HSTN2:=HSTN;clear HSTN;obtain ⟨Z,hZ⟩:∃ Z,Z=sA+K:=⟨_,rfl⟩;rw [←hZ] at HSTN2 hOk;have hZb:Z≤7*(4096*268435456):=by omega
          have HZ:=Zh hZ;clear hZ;have e2:IntKind.i64.wrap (P:Int)=(P:Int):=IntWalk.i64_in _ (by omega);have e3:IntKind.i64.wrap ((Z:Int)+(P:Int))=(Z:Int)+(P:Int):=IntWalk.i64_in _ (by omega);have HB2:=Zh (hBk.setI HSTN2.out);have j1:(0:Int)≤(k:Int):=by omega
          have j2:(k:Int)<(ng:Int):=by omega
          obtain ⟨W8,hW8⟩:∃ W8,W8=(wr.setCell ⟨wi.heap.size,k,none⟩ (.int .i64 (Z:Int))).alloc (.cells #[.slice A1 n1 c1,.slice A2 n2 c2] 105):=⟨_,rfl⟩;have hX8:Blk W8 wr.heap.size 105 #[.slice A1 n1 c1,.slice A2 n2 c2]:=by rw [hW8];exact Blk.new' _ _ _ (by simp [World.setCell])
          have hO8:Blk W8 w4.heap.size 157 #[.slice Q3 L cq3,.slice F M cF,.slice T M cT,.slice (some ⟨gb,go_,none⟩) L L,.slice S i cS,.int .i64 (Z:Int)]:=by rw [hW8];exact (hOk.far_ (by omega) _).alloc _
          have hB8:Blk W8 wi.heap.size 3 (Qcm ((Qib sA row).take (k+1) ++List.replicate (ng-(k+1)) 0)):=by rw [hW8];exact HB2.out.alloc _
          have hb8:Below w4.heap.size w4 W8:=by rw [hW8];exact (hbk.setCell (by simp only;omega) _).alloc (by simp [World.setCell];omega) _
          have hk8:Qaz (fun b=>b≠w4.heap.size∧b<wi.heap.size) wi W8:=by
           have hset:Qaz (fun b=>b≠w4.heap.size∧b<wi.heap.size) wr (wr.setCell ⟨wi.heap.size,k,none⟩ (.int .i64 (Z:Int))):=Qaz.set _ _ _ _ (fun hG=>by omega);have hall:Qaz (fun b=>b≠w4.heap.size∧b<wi.heap.size) (wr.setCell ⟨wi.heap.size,k,none⟩ (.int .i64 (Z:Int))) W8:=by rw [hW8];exact Qaz.below ((Zr _ _).alloc (Zn _) _)
           exact (hkk.trans hset (by omega)).trans hall (by simp [World.setCell];omega)
          have hz8:wi.heap.size+1≤W8.heap.size:=by rw [hW8];simp [World.setCell];omega
          have HW8:=Zh hW8;have HX8:=Zh hX8;have o5a:=hOk.six.2.2.2.2.2;have zb:=hBk.lt;have zo:=hOk.lt;clear hx hr1 hr2 cc1 cc2 hW8 hOk hBk hv0 hbk hkk HB2 hX8
          go_wp2_with fail
          rw [←HW8.out];clear o5a zb zo;have hX8:=HX8.out;have hlt8:=hX8.lt;have HSX:=Zh (show ∀ V,Blk V wr.heap.size 105 #[.slice A1 n1 c1,.slice A2 n2 c2]→V.cell? ⟨wr.heap.size,0,none⟩=some (.slice A1 n1 c1)∧V.cell? ⟨wr.heap.size,1,none⟩=some (.slice A2 n2 c2) from fun V hV=>⟨hV.two.1,hV.two.2.1⟩)
          refine wp_region_held_drew (S:=fun V=>Blk V wr.heap.size 105 #[.slice A1 n1 c1,.slice A2 n2 c2]) (by kernel_rfl) hX8.drew (fun _=>?_);refine tz 0 84 ?_;refine tz 1 85 ?_;refine tz 2 86 ?_;refine tz 4 88 ?_;refine tz 5 89 ?_;refine tz 6 90 ?_;refine tz 7 91 ?_;refine tz 8 92 ?_;refine tz 9 93 ?_;refine tz 10 94 ?_;obtain ⟨o0,o1,o2,o3,o4,o5⟩:=hO8.six;refine Zk 3 (fun K hK=>?_);go_simp;refine hK.out _ _ hX8.drew (fun _=>?_);clear hK;refine tz 11 95 ?_;refine tz 12 96 ?_;refine tz 13 97 ?_;have of:=hO8.frozen 5;refine Zk 14 (fun K hK=>?_);go_simp;refine hK.out _ _ (hX8.far_ (by omega) _) (fun _=>?_);clear hK;refine Zd ?_;have HO9:=Zh (show Blk ((W8.setCell ⟨w4.heap.size,5,none⟩ (.int .i64 ((Z:Int)+(P:Int)))).drew) w4.heap.size 157 #[.slice Q3 L cq3,.slice F M cF,.slice T M cT,.slice (some ⟨gb,go_,none⟩) L L,.slice S i cS,.int .i64 ((Z:Int)+(P:Int))] from hO8.set_ 5 _)
          have HB9:=Zh (hB8.far_ (b:=w4.heap.size) (o:=5) (by omega) (.int .i64 ((Z:Int)+(P:Int))));have HE9:=Zh (show (((sA+Qda (row.take (k+1)):Nat)):Int)=(Z:Int)+(P:Int) by have:=HSZ.out;have:=HZ.out;omega)
          have HK9:=Zh (hk8.trans (Qaz.set W8 w4.heap.size 5 (.int .i64 ((Z:Int)+(P:Int))) (fun hG=>hG.1 rfl)) (by omega));have HL9:=Zh (hb8.setCell (p:=⟨w4.heap.size,5,none⟩) (by simp) (.int .i64 ((Z:Int)+(P:Int))));clear hO8 hB8 hk8 hb8 o0 o1 o2 o3 o4 o5 of hX8
          go_wp2_with fail
          go_roundw
          case rel=>exact ⟨by simp [World.setCell];omega,HL9.out.drew,HK9.out,k+1,by omega,by go_num,by rw [HE9.out];exact HO9.out,HB9.out⟩
          case measure=>simp [intOf];omega
        · obtain rfl:ng=k:=by omega
          rw [Nat.sub_self,List.replicate_zero,List.append_nil,List.take_of_length_le (by rw [Qet,HRL.out];exact Zn _)] at hBk;rw [List.take_of_length_le (by rw [HRL.out];exact Zn _)] at hOk;have hRk:=hRw.keep (by omega) (fun b h1 h2=>hkk b ⟨by omega,h2⟩ h2);have hSl:∀ b,Qab S=some b→b<wi.heap.size:=fun b hb=>(hRw.1.lt b hb).2
          obtain ⟨W1,hW1⟩:∃ W1,W1=wr.alloc (.cells #[.slice (some ⟨wi.heap.size,0,none⟩) ng ng] 93):=⟨_,rfl⟩;have hbA:Below wr.heap.size wr W1:=by rw [hW1];exact Qae
          have hRA:=hRk.below hbA;have hOA:=hOk.below hbA hOk.lt;have hrA:Rds W1 1 (some ⟨wr.heap.size,0,none⟩) 1 [.slice (some ⟨wi.heap.size,0,none⟩) ng ng]:=by rw [hW1];exact (Blk.new wr 93 #[.slice (some ⟨wi.heap.size,0,none⟩) ng ng]).rds rfl
          have hrI:RdI W1 (some ⟨wi.heap.size,0,none⟩) ng (Qib sA row):=(hBk.below hbA hBk.lt).rdI (by rw [Qet];exact HRL.out);have hLt:=hBk.lt;have hbA4:Below w4.heap.size w4 W1:=hbk.trans (hbA.mono (by omega));have hszA:wo.heap.size≤W1.heap.size:=by have:=hbA.size;omega
          have hzA:=hbA.size;have hKA:Qaz (fun b=>b≠w4.heap.size∧b<wo.heap.size) wo W1:=(hkr.trans (hkk.mono (fun b hb=>⟨hb.1,by omega⟩)) (by omega)).trans ((Qaz.below hbA).mono (fun b hb=>hb)) (by omega);have hoS:=hRA.1;obtain ⟨o0,o1,o2,o3,o4,o5⟩:=hOk.six;have zo:=hOk.lt;have HSNN:=Zh (show ((Qbf ((gatesOf N.ar ls).take (i+1)):Nat):Int)=((sA+Qda row:Nat):Int) by rw [HSN.out])
          have HW1:=Zh hW1;clear hBk hRk hW1 hRw hO hkk hkr hbk hbr
          go_wp2_with (at_builtin;rw [←HW1.out];with_reducible refine Qap rfl (.tmp 103) (.tmp 105) 27 rfl 93 _ 1 24 Qhb underlying27 rfl (by omega) rfl rfl hoS hrA (Qcd _ _ _) (by omega) (by omega) (by omega) ?_)
          intro A' c' w' hown' hg hat;have hO':=hOA.grown hg (hoS.ne (by omega));have hb4':Below w4.heap.size w4 w':=Bel.grownOwn hbA4 hg (hoS.mono (by omega)) (by omega);have hz':=hg.size
          have HR':=Zh ((hRA.push hown' hg hat hrI (fun q hq=>by
           have e:=Qgj hq;subst e;exact ⟨by omega,by omega,fun e=>by have:=hSl _ e;omega⟩) (Zn _) (by omega)).far (Qaa w' w4.heap.size 4 (.slice A' (i+1) c')) (by omega))
          have HK':=Zh ((hKA.trans (Qaz.grown hg (fun b hb e=>by have:=(hoS.lt b e).1;omega)) (by omega)).trans (Qaz.set w' w4.heap.size 4 (.slice A' (i+1) c') (fun hG=>hG.1 rfl)) (by omega));have HO':=Zh (show Blk (w'.setCell ⟨w4.heap.size,4,none⟩ (.slice A' (i+1) c')) w4.heap.size 157 #[.slice Q3 L cq3,.slice F M cF,.slice T M cT,.slice (some ⟨gb,go_,none⟩) L L,.slice A' (i+1) c',.int .i64 ((Qbf ((gatesOf N.ar ls).take (i+1)):Nat):Int)] from by rw [HSNN.out];exact hO'.set_ 4 _)
          have HL':=Zh (hb4'.setCell (p:=⟨w4.heap.size,4,none⟩) (by simp) (.slice A' (i+1) c'));obtain ⟨_,_,_,_,o4',_⟩:=hO'.six;have of':=hO'.frozen 4;clear hRA hOA hrA hrI hbA4 hKA hoS o0 o1 o2 o3 o4 o5 hown' hg hat hO' hb4' hbA
          go_wp2_with fail
          go_roundw
          case rel=>exact ⟨by simp [World.setCell];omega,HL'.out,HK'.out,i+1,A',c',_,by omega,by go_num,HO'.out,by rw [List.take_succ_eq_append_getElem (Zs HSG.out).1,(Zs HSG.out).2];exact HR'.out⟩
          case measure=>simp [intOf];omega
     · obtain rfl:L=i:=by omega
       have hgl:(gatesOf N.ar ls).length=L:=by simp [gatesOf];exact HT.out.1
       rw [List.take_of_length_le (by rw [Qxh,hgl];exact Zn _)] at hRw;rw [List.take_of_length_le (by rw [hgl];exact Zn _)] at hO;have hz4:=hbw4.size;have hzo:=hO.lt
       have HOV:=Zh (show Qez (msk wr (fun b=>w.heap.size≤b∧b<wr.heap.size)) w4.heap.size N.ar ls from by
        have hk4:Le (msk w4 (fun b=>w.heap.size≤b∧b<w4.heap.size)) (msk wr (fun b=>w.heap.size≤b∧b<wr.heap.size)) :=
         Le.trans (Qaz.msk (W':=wr) (fun b hb _=>hbr.block b hb.2)) (Qbd (fun b hb=>⟨hb.1,by omega⟩))
        have own:∀ (A:Option Addr) (c:Nat) (l:List Int),Own wo (w4.heap.size+1) 3 1 A M c (Qad l)→RdI (msk wr (fun b=>w.heap.size≤b∧b<wr.heap.size)) A M l:=fun A c l ho =>
         (ho.rds.rdI.keepB (fun b hb=>hkr b ⟨by have:=(ho.lt b hb).1;omega,(ho.lt b hb).2⟩ (ho.lt b hb).2)).msk (fun b hb=>⟨by have:=(ho.lt b hb).1;omega,by have:=(ho.lt b hb).2;omega⟩)
        obtain ⟨o0,o1,o2,o3,o4,o5⟩:=hO.six;have hc:∀ {k:Nat} {v:Value},wr.cell? ⟨w4.heap.size,k,none⟩=some v→(msk wr (fun b=>w.heap.size≤b∧b<wr.heap.size)).cell? ⟨w4.heap.size,k,none⟩=some v:=fun h=>Qar.2 ⟨⟨by omega,by omega⟩,h⟩
        exact ⟨_,_,_,_,_,_,_,_,_,_,_,_,hc o0,hc o1,hc o2,hc o3,hc o4,hc o5,HQ4.out.le hk4,own _ _ _ HOF.out,own _ _ _ HOT.out,HG4.out.le hk4,hRw.rdM (fun b h1 h2=>⟨by omega,h2⟩),HCQ.out⟩)
       have HBF:=Zh (hbw4.trans (hbr.mono (by omega)));clear hO hRw hbr hkr
       go_wp2_with fail
       go_ret2
       exact ⟨_,rfl,HOV.out,HBF.out⟩
end Go.Proofs.YthoagdpakddbdaaGreatDoor
